/-
  Placements, walked: comparing them, looking for one.
  Kinds of a list, in rising order, and the runs of the sorted list: the same.
  Copies of placements, walked.
-/
import Derived.Test.YtckcanemolkncaaDoorK1
import Derived.Test.YtckcanemolkncaaDoorN3
import Derived.Test.YtckcanemolkncaaDoorP4
import Derived.Test.YtckcanemolkncaaDoorS2
set_option linter.unusedVariables false
set_option linter.unusedSimpArgs false
namespace Go.Proofs.Cost58
open Go Go.Proofs Go.Ab Pz
set_option maxRecDepth 100000

def orI (a b : Int) : Int := if a ≠ 0 then a else b
theorem or_vc (a b : Int) : fnVC T Tryd.prog Tryd.f41 [.sl ([a, b].map I)] (I (orI a b)) := by
  repeat' ((conv => whnf); first
    | refine seq_go ?_
    | refine draw_i (by kernel_rfl) ?_
    | refine arith_half (by omega) ?_
    | refine arith_in (by omega) ?_
    | refine arith_u (by omega) ?_
    | refine need_i (p := (T.row _).eq = true) (by kernel_rfl) ?_
    | refine need_i (by omega) ?_
    | refine br_not ?_
    | refine br_dec (fun hd => ?_) (fun hd => ?_)
    | refine br_lt (fun hlt => ?_) (fun hlt => ?_)
    | refine br_le (fun hle => ?_) (fun hle => ?_)
    | refine br_eq (fun heq => ?_) (fun heq => ?_)
    | refine idx_map (by omega) (fun x hx => ?_)
    | refine live_i rfl (fun h => by cases h) ?_
    | refine branch_s (fun hbb => ?_) (fun hbb => ?_)
    | refine ret_i ?_)
  refine loop_i (A := Nat) (fun k => mkSt [(3, I 0), (6, .sl ([a, b].map I)), (7, I 2), (8, I k)] [] []) (fun k => k ≤ 2 ∧ (0 < k → a = 0) ∧ (1 < k → b = 0)) (fun k => 2 - k) 0 ?_ ⟨by omega, fun h => by omega, fun h => by omega⟩ (fun k hk => ?_)
  · refine le_mk ?_ ?_ ?_ ?_
    all_goals repeat' (first | exact trivial | refine And.intro ?_ ?_ | with_reducible rfl | exact Nat.le_refl _ | omega | exact rfl)
  · obtain ⟨h1, h2, h3⟩ := hk
    have hc : k = 0 ∨ k = 1 ∨ k = 2 := by omega
    rcases hc with rfl | rfl | rfl
    · repeat' ((conv => whnf); first
        | (exfalso; omega)
        | refine need_i ⟨by omega, by show ((0 : Nat) : Int) < 2; omega⟩ ?_
        | refine idx_i (I a) rfl ?_
        | refine seq_go ?_
        | refine draw_i (by kernel_rfl) ?_
        | refine arith_half (by omega) ?_
        | refine arith_in (by omega) ?_
        | refine arith_u (by omega) ?_
        | refine need_i (p := (T.row _).eq = true) (by kernel_rfl) ?_
        | refine need_i (by omega) ?_
        | refine br_not ?_
        | refine br_dec (fun hd => ?_) (fun hd => ?_)
        | refine br_lt (fun hlt => ?_) (fun hlt => ?_)
        | refine br_le (fun hle => ?_) (fun hle => ?_)
        | refine br_eq (fun heq => ?_) (fun heq => ?_)
        | refine idx_map (by omega) (fun x hx => ?_)
        | refine live_i rfl (fun h => by cases h) ?_
        | refine branch_s (fun hbb => ?_) (fun hbb => ?_)
        | refine ret_i ?_)
      · conv => whnf
        refine ⟨1, ?_, ⟨by omega, fun _ => heq, fun h => by omega⟩, by omega⟩
        refine le_mk ?_ ?_ ?_ ?_
        all_goals repeat' (first | exact trivial | refine And.intro ?_ ?_ | with_reducible rfl | exact Nat.le_refl _ | omega | exact rfl)
      · conv => whnf
        refine ret_int ?_
        unfold orI; rw [if_pos heq]
    · have ha := h2 (by omega)
      repeat' ((conv => whnf); first
        | (exfalso; omega)
        | refine need_i ⟨by omega, by show ((1 : Nat) : Int) < 2; omega⟩ ?_
        | refine idx_i (I b) rfl ?_
        | refine seq_go ?_
        | refine draw_i (by kernel_rfl) ?_
        | refine arith_half (by omega) ?_
        | refine arith_in (by omega) ?_
        | refine arith_u (by omega) ?_
        | refine need_i (p := (T.row _).eq = true) (by kernel_rfl) ?_
        | refine need_i (by omega) ?_
        | refine br_not ?_
        | refine br_dec (fun hd => ?_) (fun hd => ?_)
        | refine br_lt (fun hlt => ?_) (fun hlt => ?_)
        | refine br_le (fun hle => ?_) (fun hle => ?_)
        | refine br_eq (fun heq => ?_) (fun heq => ?_)
        | refine idx_map (by omega) (fun x hx => ?_)
        | refine live_i rfl (fun h => by cases h) ?_
        | refine branch_s (fun hbb => ?_) (fun hbb => ?_)
        | refine ret_i ?_)
      · conv => whnf
        refine ⟨2, ?_, ⟨by omega, fun _ => ha, fun _ => heq⟩, by omega⟩
        refine le_mk ?_ ?_ ?_ ?_
        all_goals repeat' (first | exact trivial | refine And.intro ?_ ?_ | with_reducible rfl | exact Nat.le_refl _ | omega | exact rfl)
      · conv => whnf
        refine ret_int ?_
        unfold orI; rw [if_neg (by omega)]
    · have ha := h2 (by omega)
      have hb := h3 (by omega)
      repeat' ((conv => whnf); first
        | (exfalso; omega)
        | refine seq_go ?_
        | refine draw_i (by kernel_rfl) ?_
        | refine arith_half (by omega) ?_
        | refine arith_in (by omega) ?_
        | refine arith_u (by omega) ?_
        | refine need_i (p := (T.row _).eq = true) (by kernel_rfl) ?_
        | refine need_i (by omega) ?_
        | refine br_not ?_
        | refine br_dec (fun hd => ?_) (fun hd => ?_)
        | refine br_lt (fun hlt => ?_) (fun hlt => ?_)
        | refine br_le (fun hle => ?_) (fun hle => ?_)
        | refine br_eq (fun heq => ?_) (fun heq => ?_)
        | refine idx_map (by omega) (fun x hx => ?_)
        | refine live_i rfl (fun h => by cases h) ?_
        | refine branch_s (fun hbb => ?_) (fun hbb => ?_)
        | refine ret_i ?_)
      conv => whnf
      refine ret_int ?_
      unfold orI; rw [if_neg (by omega), hb]
theorem or_spec (a b : Int) : Sp 41 [.sl ([a, b].map I)] (I (orI a b)) := sp_of Tryd.func41 (by kernel_rfl) (by kernel_rfl) (or_vc a b)

/-- by part, then by turn -/
def samF (x y : Pl) : Int := orI (cmpI x.1 y.1) (cmpI x.2.1 y.2.1)
theorem sam_vc (x y : Pl) : fnVC T Tryd.prog Tryd.f40 [plV x, plV y] (I (samF x y)) := by
  repeat' ((conv => whnf); first
    | (refine call_i (cmp_spec x.1 y.1) false ?_ rfl ?_; focus ((repeat' (first | exact trivial | refine And.intro ?_ ?_ | with_reducible rfl | exact (fun h => by cases h) | exact rfl)); done))
    | (refine call_i (cmp_spec x.2.1 y.2.1) false ?_ rfl ?_; focus ((repeat' (first | exact trivial | refine And.intro ?_ ?_ | with_reducible rfl | exact (fun h => by cases h) | exact rfl)); done))
    | (refine call_i (or_spec (cmpI x.1 y.1) (cmpI x.2.1 y.2.1)) true ?_ rfl ?_; focus ((repeat' (first | exact trivial | refine And.intro ?_ ?_ | with_reducible rfl | exact (fun h => by cases h) | exact rfl)); done))
    | refine seq_go ?_
    | refine draw_i (by kernel_rfl) ?_
    | refine arith_half (by omega) ?_
    | refine arith_in (by omega) ?_
    | refine arith_u (by omega) ?_
    | refine need_i (p := (T.row _).eq = true) (by kernel_rfl) ?_
    | refine need_i (by omega) ?_
    | refine br_not ?_
    | refine br_dec (fun hd => ?_) (fun hd => ?_)
    | refine br_lt (fun hlt => ?_) (fun hlt => ?_)
    | refine br_le (fun hle => ?_) (fun hle => ?_)
    | refine br_eq (fun heq => ?_) (fun heq => ?_)
    | refine idx_map (by omega) (fun x hx => ?_)
    | refine live_i rfl (fun h => by cases h) ?_
    | refine branch_s (fun hbb => ?_) (fun hbb => ?_)
    | refine ret_i ?_)
  conv => whnf
  exact ret_int rfl
theorem sam_spec (x y : Pl) : Sp 40 [plV x, plV y] (I (samF x y)) := sp_of Tryd.func40 (by kernel_rfl) (by kernel_rfl) (sam_vc x y)
/-- one number for both -/
def plK (x : Pl) : Int := x.1 * 36893488147419103232 + x.2.1
def plQ (x : Pl) : Prop := -9223372036854775808 ≤ x.2.1 ∧ x.2.1 ≤ 9223372036854775807
theorem cmpI_cases (a b : Int) : (a < b ∧ cmpI a b = -1) ∨ (a = b ∧ cmpI a b = 0) ∨ (b < a ∧ cmpI a b = 1) := by
  unfold cmpI
  rcases Int.lt_trichotomy a b with h | h | h
  · exact .inl ⟨h, if_pos h⟩
  · exact .inr (.inl ⟨h, by rw [if_neg (by omega), if_neg (by omega)]⟩)
  · exact .inr (.inr ⟨h, by rw [if_neg (by omega), if_pos h]⟩)
theorem sam_key {x y : Pl} (hx : plQ x) (hy : plQ y) : samF x y = cmpI (plK x) (plK y) := by
  obtain ⟨x1, x2⟩ := hx
  obtain ⟨y1, y2⟩ := hy
  unfold samF orI plK
  rcases cmpI_cases x.1 y.1 with ⟨h, e⟩ | ⟨h, e⟩ | ⟨h, e⟩ <;> rw [e]
  · rw [if_pos (by decide)]
    rcases cmpI_cases (x.1 * 36893488147419103232 + x.2.1) (y.1 * 36893488147419103232 + y.2.1) with ⟨h', e'⟩ | ⟨h', e'⟩ | ⟨h', e'⟩ <;> rw [e'] <;> omega
  · rw [if_neg (by decide)]
    rcases cmpI_cases (x.1 * 36893488147419103232 + x.2.1) (y.1 * 36893488147419103232 + y.2.1) with ⟨h', e'⟩ | ⟨h', e'⟩ | ⟨h', e'⟩ <;> rw [e'] <;>
      rcases cmpI_cases x.2.1 y.2.1 with ⟨h2, e2⟩ | ⟨h2, e2⟩ | ⟨h2, e2⟩ <;> rw [e2] <;> omega
  · rw [if_pos (by decide)]
    rcases cmpI_cases (x.1 * 36893488147419103232 + x.2.1) (y.1 * 36893488147419103232 + y.2.1) with ⟨h', e'⟩ | ⟨h', e'⟩ | ⟨h', e'⟩ <;> rw [e'] <;> omega
theorem sam_zero {x y : Pl} : samF x y = 0 ↔ x.1 = y.1 ∧ x.2.1 = y.2.1 := by
  unfold samF orI
  rcases cmpI_cases x.1 y.1 with ⟨h, e⟩ | ⟨h, e⟩ | ⟨h, e⟩ <;> rw [e]
  · rw [if_pos (by decide)]; omega
  · rw [if_neg (by decide)]
    rcases cmpI_cases x.2.1 y.2.1 with ⟨h2, e2⟩ | ⟨h2, e2⟩ | ⟨h2, e2⟩ <;> rw [e2] <;> omega
  · rw [if_pos (by decide)]; omega
/-- the program's sorting of placements -/
theorem plSort_spec (L : List Pl) (hq : ∀ x ∈ L, plQ x) (hl : L.length ≤ 10000) : SpIO 42 [.own 102 (L.map plV), .fn 40 []] (.tup []) 102 ((isortP (fun x y => cmpI (plK x) (plK y)) L).map plV) :=
  Pz.sorts_spec (g := 40) (c := fun x y => cmpI (plK x) (plK y)) (Q := plQ) (key := plK) (fun i j hi hj => by show Sp 40 [plV i, plV j] (I (cmpI (plK i) (plK j))); rw [← sam_key hi hj]; exact sam_spec i j) (fun a b => cmpI_neg _ _) L hq hl

/-- placed parts that are not there -/
def outP (n : Nat) (x : Pl) : Prop := x.1 < 0 ∨ (n : Int) ≤ x.1
theorem out_vc (ps : List V) (x : Pl) : fnVC T Tryd.prog Tryd.f36 [plV x, .fp [.sl ps]] (.lit (.bool (decB (outP ps.length x)))) := by
  repeat' ((conv => whnf); first
    | refine seq_go ?_
    | refine draw_i (by kernel_rfl) ?_
    | refine arith_half (by omega) ?_
    | refine arith_in (by omega) ?_
    | refine arith_u (by omega) ?_
    | refine need_i (p := (T.row _).eq = true) (by kernel_rfl) ?_
    | refine need_i (by omega) ?_
    | refine br_not ?_
    | refine br_dec (fun hd => ?_) (fun hd => ?_)
    | refine br_lt (fun hlt => ?_) (fun hlt => ?_)
    | refine br_le (fun hle => ?_) (fun hle => ?_)
    | refine br_eq (fun heq => ?_) (fun heq => ?_)
    | refine idx_map (by omega) (fun x hx => ?_)
    | refine live_i rfl (fun h => by cases h) ?_
    | refine branch_s (fun hbb => ?_) (fun hbb => ?_)
    | refine ret_i ?_)
  all_goals (conv => whnf)
  all_goals refine ret_boolD ?_
  · exact dec_ret (.inl hlt)
  · exact le_dec ⟨fun h => .inr h, fun h => by rcases h with h | h <;> omega⟩
theorem out_spec (ps : List V) (x : Pl) : Sp 36 [plV x, .fp [.sl ps]] (.lit (.bool (decB (outP ps.length x)))) := sp_of Tryd.func36 (by kernel_rfl) (by kernel_rfl) (out_vc ps x)
theorem ptw_stop {α : Type} {p : α → Bool} {D R : List α} {x : α} (h : ∀ y ∈ D, p y = true) (hx : p x = false) : ((D ++ x :: R).takeWhile p).length = D.length := by
  induction D with
  | nil => simp [List.takeWhile, hx]
  | cons d D ih => rw [List.cons_append, List.takeWhile_cons, if_pos (h d (by simp)), List.length_cons, ih (fun y hy => h y (by simp [hy])), List.length_cons]
theorem ptw_all {α : Type} {p : α → Bool} {D : List α} (h : ∀ y ∈ D, p y = true) : (D.takeWhile p).length = D.length := by
  induction D with
  | nil => rfl
  | cons d D ih => rw [List.takeWhile_cons, if_pos (h d (by simp)), List.length_cons, ih (fun y hy => h y (by simp [hy])), List.length_cons]
/-- the first one of a kind -/
noncomputable def pfst (Q : Pl → Prop) (l : List Pl) : Nat := (l.takeWhile fun m => !decB (Q m)).length
noncomputable def pfstI (Q : Pl → Prop) (l : List Pl) : Int := if pfst Q l < l.length then pfst Q l else -1
theorem pfst_none {Q : Pl → Prop} {l : List Pl} : ¬ pfst Q l < l.length ↔ ∀ m ∈ l, ¬ Q m := by
  unfold pfst
  constructor
  · intro h m hm hq
    apply h
    clear h
    induction l with
    | nil => simp at hm
    | cons x l ih =>
      rw [List.takeWhile_cons]
      split
      · rename_i hx
        rcases List.mem_cons.1 hm with rfl | hm
        · rw [decB_t.2 hq] at hx; simp at hx
        · have := ih hm
          rw [List.length_cons, List.length_cons]; omega
      · simp
  · intro h
    rw [ptw_all (fun y hy => by rw [decB_f.2 (h y hy)]; rfl)]
    omega
theorem pindex_vc {g : FuncId} {cs : List V} {Q : Pl → Prop} (hg : ∀ m, Sp g [plV m, .fp cs] (.lit (.bool (decB (Q m))))) (l : List Pl) (hl : l.length ≤ 1000000) : fnVC T Tryd.prog Tryd.f74 [.sl (l.map plV), .fn g [.fp cs]] (I (pfstI Q l)) := by
  have hll : (l.map plV).length = l.length := by simp
  repeat' ((conv => whnf); first
    | refine seq_go ?_
    | refine draw_i (by kernel_rfl) ?_
    | refine arith_half (by omega) ?_
    | refine arith_in (by omega) ?_
    | refine arith_u (by omega) ?_
    | refine need_i (p := (T.row _).eq = true) (by kernel_rfl) ?_
    | refine need_i (by omega) ?_
    | refine br_not ?_
    | refine br_dec (fun hd => ?_) (fun hd => ?_)
    | refine br_lt (fun hlt => ?_) (fun hlt => ?_)
    | refine br_le (fun hle => ?_) (fun hle => ?_)
    | refine br_eq (fun heq => ?_) (fun heq => ?_)
    | refine idx_map (by omega) (fun x hx => ?_)
    | refine live_i rfl (fun h => by cases h) ?_
    | refine branch_s (fun hbb => ?_) (fun hbb => ?_)
    | refine ret_i ?_)
  refine loop_2 (A := List Pl) (B := List Pl) (fun D R => mkSt [(0, .sl (l.map plV)), (1, .fn g [.fp cs]), (7, I l.length), (8, I D.length)] [] [])
    (fun D R => l = D ++ R ∧ ∀ m ∈ D, ¬ Q m) (fun D R => R.length) [] l ?_ ⟨rfl, by simp⟩ (fun D R hp => ?_)
  · refine le_mk ?_ ?_ ?_ ?_
    all_goals repeat' (first | exact trivial | refine And.intro ?_ ?_ | with_reducible rfl | exact Nat.le_refl _ | omega | exact rfl)
  · obtain ⟨h1, h2⟩ := hp
    have hlen : l.length = D.length + R.length := by rw [h1]; simp
    have hD : ∀ y ∈ D, (!decB (Q y)) = true := fun y hy => by rw [decB_f.2 (h2 y hy)]; rfl
    cases R with
    | nil =>
      have e : l = D := by rw [h1]; simp
      simp at hlen
      repeat' ((conv => whnf); first
        | (exfalso; omega)
        | refine seq_go ?_
        | refine draw_i (by kernel_rfl) ?_
        | refine arith_half (by omega) ?_
        | refine arith_in (by omega) ?_
        | refine arith_u (by omega) ?_
        | refine need_i (p := (T.row _).eq = true) (by kernel_rfl) ?_
        | refine need_i (by omega) ?_
        | refine br_not ?_
        | refine br_dec (fun hd => ?_) (fun hd => ?_)
        | refine br_lt (fun hlt => ?_) (fun hlt => ?_)
        | refine br_le (fun hle => ?_) (fun hle => ?_)
        | refine br_eq (fun heq => ?_) (fun heq => ?_)
        | refine idx_map (by omega) (fun x hx => ?_)
        | refine live_i rfl (fun h => by cases h) ?_
        | refine branch_s (fun hbb => ?_) (fun hbb => ?_)
        | refine ret_i ?_)
      conv => whnf
      refine ret_int ?_
      unfold pfstI
      rw [if_neg (pfst_none.2 (by rw [e]; exact h2))]
    | cons x R =>
      rw [List.length_cons] at hlen
      repeat' ((conv => whnf); first
        | (exfalso; omega)
        | refine idx_mid (l := l) (A := D) (x := x) (B := R) h1 (by omega) ?_
        | (refine call_i (hg x) false ?_ rfl ?_; focus ((repeat' (first | exact trivial | refine And.intro ?_ ?_ | with_reducible rfl | exact (fun h => by cases h) | exact rfl)); done))
        | refine seq_go ?_
        | refine draw_i (by kernel_rfl) ?_
        | refine arith_half (by omega) ?_
        | refine arith_in (by omega) ?_
        | refine arith_u (by omega) ?_
        | refine need_i (p := (T.row _).eq = true) (by kernel_rfl) ?_
        | refine need_i (by omega) ?_
        | refine br_not ?_
        | refine br_dec (fun hd => ?_) (fun hd => ?_)
        | refine br_lt (fun hlt => ?_) (fun hlt => ?_)
        | refine br_le (fun hle => ?_) (fun hle => ?_)
        | refine br_eq (fun heq => ?_) (fun heq => ?_)
        | refine idx_map (by omega) (fun x hx => ?_)
        | refine live_i rfl (fun h => by cases h) ?_
        | refine branch_s (fun hbb => ?_) (fun hbb => ?_)
        | refine ret_i ?_)
      · conv => whnf
        refine ret_int ?_
        have e : pfst Q l = D.length := by unfold pfst; rw [h1]; exact ptw_stop hD (by rw [decB_t.2 hd]; rfl)
        unfold pfstI
        rw [e, if_pos (by omega)]
      · conv => whnf
        refine ⟨(D ++ [x], R), ?_, ⟨?_, ?_⟩, ?_⟩
        · refine le_mk ?_ ?_ ?_ ?_
          all_goals repeat' (first | exact trivial | refine And.intro ?_ ?_ | with_reducible rfl | exact Nat.le_refl _ | omega | exact rfl)
          · show (D.length : Int) + 1 = (D ++ [x]).length
            simp
        · show l = D ++ [x] ++ R
          rw [h1]; simp
        · intro m hm
          rcases List.mem_append.1 hm with hm | hm
          · exact h2 m hm
          · rw [List.mem_singleton.1 hm]; exact hd
        · show R.length < (x :: R).length
          simp
theorem pindex_spec {g : FuncId} {cs : List V} {Q : Pl → Prop} (hg : ∀ m, Sp g [plV m, .fp cs] (.lit (.bool (decB (Q m))))) (l : List Pl) (hl : l.length ≤ 1000000) : Sp 74 [.sl (l.map plV), .fn g [.fp cs]] (I (pfstI Q l)) := sp_of Tryd.func74 (by kernel_rfl) (by kernel_rfl) (pindex_vc hg l hl)
theorem pcontains_vc {g : FuncId} {cs : List V} {Q : Pl → Prop} (hg : ∀ m, Sp g [plV m, .fp cs] (.lit (.bool (decB (Q m))))) (l : List Pl) (hl : l.length ≤ 1000000) : fnVC T Tryd.prog Tryd.f38 [.sl (l.map plV), .fn g [.fp cs]] (.lit (.bool (decB (∃ m ∈ l, Q m)))) := by
  repeat' ((conv => whnf); first
    | (refine call_i (pindex_spec hg l hl) false ?_ rfl ?_; focus ((repeat' (first | exact trivial | refine And.intro ?_ ?_ | with_reducible rfl | exact (fun h => by cases h) | exact rfl)); done))
    | refine seq_go ?_
    | refine draw_i (by kernel_rfl) ?_
    | refine arith_half (by omega) ?_
    | refine arith_in (by omega) ?_
    | refine arith_u (by omega) ?_
    | refine need_i (p := (T.row _).eq = true) (by kernel_rfl) ?_
    | refine need_i (by omega) ?_
    | refine br_not ?_
    | refine br_dec (fun hd => ?_) (fun hd => ?_)
    | refine br_lt (fun hlt => ?_) (fun hlt => ?_)
    | refine br_le (fun hle => ?_) (fun hle => ?_)
    | refine br_eq (fun heq => ?_) (fun heq => ?_)
    | refine idx_map (by omega) (fun x hx => ?_)
    | refine live_i rfl (fun h => by cases h) ?_
    | refine branch_s (fun hbb => ?_) (fun hbb => ?_)
    | refine ret_i ?_)
  conv => whnf
  refine ret_boolD (le_dec ?_)
  have h := pfst_none (Q := Q) (l := l)
  unfold pfstI
  constructor
  · intro h0
    split at h0
    · rename_i hlt
      exact Classical.byContradiction fun hn => (h.2 (fun m hm hq => hn ⟨m, hm, hq⟩)) hlt
    · omega
  · rintro ⟨m, hm, hq⟩
    split
    · omega
    · rename_i hlt
      exact (h.1 hlt m hm hq).elim
theorem pcontains_spec {g : FuncId} {cs : List V} {Q : Pl → Prop} (hg : ∀ m, Sp g [plV m, .fp cs] (.lit (.bool (decB (Q m))))) (l : List Pl) (hl : l.length ≤ 1000000) : Sp 38 [.sl (l.map plV), .fn g [.fp cs]] (.lit (.bool (decB (∃ m ∈ l, Q m)))) := sp_of Tryd.func38 (by kernel_rfl) (by kernel_rfl) (pcontains_vc hg l hl)
end Go.Proofs.Cost58
namespace Go.Proofs.Cost58
section
variable {α : Type} (key : α → Int) (nz : α → α)

def insU (x : α) : List α → List α
  | [] => [nz x]
  | k :: K => if key k < key x then k :: insU x K else if key k = key x then k :: K else nz x :: k :: K
def kinds (L : List α) : List α := L.foldl (fun K x => insU key nz x K) []
theorem kinds_snoc (L : List α) (x : α) : kinds key nz (L ++ [x]) = insU key nz x (kinds key nz L) := by simp [kinds]
theorem insU_cut {x : α} : ∀ (A B : List α), (∀ a ∈ A, key a < key x) → insU key nz x (A ++ B) = A ++ insU key nz x B
  | [], B, _ => rfl
  | a :: A, B, h => by
    rw [List.cons_append, insU, if_pos (h a (by simp)), insU_cut A B (fun b hb => h b (by simp [hb]))]; rfl
theorem insU_mem {x k : α} : ∀ {K : List α}, k ∈ insU key nz x K → k = nz x ∨ k ∈ K
  | [], h => by simp [insU] at h; exact .inl h
  | a :: K, h => by
    rw [insU] at h
    split at h
    · rcases List.mem_cons.1 h with h | h
      · exact .inr (by simp [h])
      · rcases insU_mem h with h | h
        · exact .inl h
        · exact .inr (by simp [h])
    · split at h
      · exact .inr h
      · rcases List.mem_cons.1 h with h | h
        · exact .inl h
        · exact .inr h
theorem insU_sub {x k : α} : ∀ {K : List α}, k ∈ K → k ∈ insU key nz x K
  | a :: K, h => by
    rw [insU]
    split
    · rcases List.mem_cons.1 h with h | h
      · simp [h]
      · exact List.mem_cons_of_mem _ (insU_sub h)
    · split
      · exact h
      · exact List.mem_cons_of_mem _ h
theorem insU_has (hk : ∀ x, key (nz x) = key x) {x : α} : ∀ (K : List α), ∃ k ∈ insU key nz x K, key k = key x
  | [] => ⟨nz x, by simp [insU], hk x⟩
  | a :: K => by
    rw [insU]
    split
    · obtain ⟨k, h1, h2⟩ := insU_has hk (x := x) K
      exact ⟨k, List.mem_cons_of_mem _ h1, h2⟩
    · split
      · rename_i h; exact ⟨a, by simp, h⟩
      · exact ⟨nz x, by simp, hk x⟩
theorem insU_pw (hk : ∀ x, key (nz x) = key x) {x : α} : ∀ {K : List α}, K.Pairwise (fun a b => key a < key b) → (insU key nz x K).Pairwise (fun a b => key a < key b)
  | [], _ => by simp [insU]
  | a :: K, h => by
    obtain ⟨h1, h2⟩ := List.pairwise_cons.1 h
    rw [insU]
    split
    · rename_i ha
      refine List.pairwise_cons.2 ⟨fun b hb => ?_, insU_pw hk h2⟩
      rcases insU_mem key nz hb with rfl | hb
      · rw [hk]; exact ha
      · exact h1 b hb
    · split
      · exact h
      · refine List.pairwise_cons.2 ⟨fun b hb => ?_, h⟩
        rw [hk]
        rcases List.mem_cons.1 hb with rfl | hb
        · omega
        · have := h1 b hb; omega
theorem kinds_spec (hk : ∀ x, key (nz x) = key x) (L : List α) : (kinds key nz L).Pairwise (fun a b => key a < key b) ∧ (∀ k ∈ kinds key nz L, ∃ x ∈ L, k = nz x) ∧ ∀ x ∈ L, ∃ k ∈ kinds key nz L, key k = key x := by
  have h : ∀ n, ∀ L : List α, L.length = n → (kinds key nz L).Pairwise (fun a b => key a < key b) ∧ (∀ k ∈ kinds key nz L, ∃ x ∈ L, k = nz x) ∧ ∀ x ∈ L, ∃ k ∈ kinds key nz L, key k = key x := by
    intro n
    induction n with
    | zero => intro L hL; rw [List.length_eq_zero_iff.1 hL]; simp [kinds]
    | succ n ih =>
      intro L hL
      rcases List.eq_nil_or_concat L with rfl | ⟨D, x, rfl⟩
      · simp at hL
      · rw [List.concat_eq_append] at hL ⊢
        obtain ⟨i1, i2, i3⟩ := ih D (by simp at hL; omega)
        rw [kinds_snoc]
        refine ⟨insU_pw key nz hk i1, fun k hm => ?_, fun y hy => ?_⟩
        · rcases insU_mem key nz hm with h | h
          · exact ⟨x, by simp, h⟩
          · obtain ⟨z, z1, z2⟩ := i2 k h
            exact ⟨z, by simp [z1], z2⟩
        · rcases List.mem_append.1 hy with hy | hy
          · obtain ⟨k, k1, k2⟩ := i3 y hy
            exact ⟨k, insU_sub key nz k1, k2⟩
          · rw [List.mem_singleton.1 hy]
            exact insU_has key nz hk _
  exact h _ L rfl

/-- how many have that key -/
def cntK (L : List α) (k : α) : Nat := (L.filter fun y => key y == key k).length
theorem cntK_perm {L L' : List α} (h : L.Perm L') (k : α) : cntK key L k = cntK key L' k := (h.filter _).length_eq

/-- runs of one key -/
def runs (l : List α) : List (α × Nat) :=
  match l with
  | [] => []
  | x :: r => (x, (r.takeWhile fun y => key y == key x).length + 1) :: runs (r.dropWhile fun y => key y == key x)
termination_by l.length
decreasing_by
  have := (List.dropWhile_sublist (fun y => key y == key x) (l := r)).length_le
  simp only [List.length_cons]; omega
theorem runs_nil : runs key ([] : List α) = [] := by rw [runs]
theorem runs_cut {x : α} {A B : List α} (hA : ∀ a ∈ A, key a = key x) (hB : ∀ b, B.head? = some b → key b ≠ key x) : runs key (x :: (A ++ B)) = (x, A.length + 1) :: runs key B := by
  have h1 : (A ++ B).takeWhile (fun y => key y == key x) = A ∧ (A ++ B).dropWhile (fun y => key y == key x) = B := by
    induction A with
    | nil =>
      cases B with
      | nil => simp
      | cons b B => simp [List.takeWhile, List.dropWhile, hB b rfl]
    | cons a A ih =>
      obtain ⟨i1, i2⟩ := ih (fun b hb => hA b (by simp [hb]))
      simp [List.takeWhile, List.dropWhile, hA a (by simp), i1, i2]
  rw [runs, h1.1, h1.2]
theorem split_run (x : α) (r : List α) : ∃ A B, r = A ++ B ∧ (∀ a ∈ A, key a = key x) ∧ ∀ b, B.head? = some b → key b ≠ key x := by
  induction r with
  | nil => exact ⟨[], [], rfl, by simp, by simp⟩
  | cons a r ih =>
    by_cases h : key a = key x
    · obtain ⟨A, B, e, h1, h2⟩ := ih
      refine ⟨a :: A, B, by rw [e]; rfl, fun b hb => ?_, h2⟩
      rcases List.mem_cons.1 hb with rfl | hb
      · exact h
      · exact h1 b hb
    · exact ⟨[], a :: r, rfl, by simp, fun b hb => by simp at hb; rw [← hb]; exact h⟩
theorem cntK_cut {x y : α} {A B : List α} (hA : ∀ a ∈ A, key a = key x) (hB : ∀ b ∈ B, key x < key b) : cntK key (x :: (A ++ B)) y = if key y = key x then A.length + 1 else cntK key B y := by
  unfold cntK
  rw [List.filter_cons, List.filter_append]
  by_cases h : key y = key x
  · rw [if_pos h, if_pos (by simp [h])]
    have e1 : A.filter (fun z => key z == key y) = A := List.filter_eq_self.2 fun a ha => by simp [hA a ha, h]
    have e2 : B.filter (fun z => key z == key y) = [] := List.filter_eq_nil_iff.2 fun b hb => by have := hB b hb; simp; omega
    rw [e1, e2]; simp
  · rw [if_neg h, if_neg (by simp; omega)]
    have e1 : A.filter (fun z => key z == key y) = [] := List.filter_eq_nil_iff.2 fun a ha => by have := hA a ha; simp; omega
    rw [e1]; simp
theorem runs_spec (s : List α) (hs : s.Pairwise fun a b => key a ≤ key b) : (runs key s).Pairwise (fun a b => key a.1 < key b.1) ∧ (∀ p ∈ runs key s, p.1 ∈ s ∧ p.2 = cntK key s p.1) ∧ ∀ x ∈ s, ∃ p ∈ runs key s, key p.1 = key x := by
  have h : ∀ n, ∀ s : List α, s.length ≤ n → s.Pairwise (fun a b => key a ≤ key b) → (runs key s).Pairwise (fun a b => key a.1 < key b.1) ∧ (∀ p ∈ runs key s, p.1 ∈ s ∧ p.2 = cntK key s p.1) ∧ ∀ x ∈ s, ∃ p ∈ runs key s, key p.1 = key x := by
    intro n
    induction n with
    | zero => intro s hl _; rw [List.length_eq_zero_iff.1 (by omega : s.length = 0), runs_nil]; simp
    | succ n ih =>
      intro s hl hs
      cases s with
      | nil => rw [runs_nil]; simp
      | cons x r =>
        obtain ⟨A, B, e, hA, hB⟩ := split_run key x r
        subst e
        obtain ⟨q1, q2⟩ := List.pairwise_cons.1 hs
        have qB := (List.pairwise_append.1 q2).2.1
        have hB' : ∀ b ∈ B, key x < key b := by
          intro b hb
          cases B with
          | nil => simp at hb
          | cons b0 B =>
            have h0 := hB b0 rfl
            have h1 := q1 b0 (by simp)
            rcases List.mem_cons.1 hb with rfl | hb
            · omega
            · have := (List.pairwise_cons.1 qB).1 b hb; omega
        obtain ⟨i1, i2, i3⟩ := ih B (by simp at hl; omega) qB
        rw [runs_cut key hA hB]
        refine ⟨List.pairwise_cons.2 ⟨fun p hp => hB' _ (i2 p hp).1, i1⟩, fun p hp => ?_, fun y hy => ?_⟩
        · rw [cntK_cut key hA hB']
          rcases List.mem_cons.1 hp with rfl | hp
          · exact ⟨by simp, by rw [if_pos rfl]⟩
          · obtain ⟨j1, j2⟩ := i2 p hp
            refine ⟨by simp [j1], ?_⟩
            have := hB' _ j1
            rw [if_neg (by omega)]; exact j2
        · rcases List.mem_cons.1 hy with rfl | hy
          · exact ⟨_, List.mem_cons_self, rfl⟩
          · rcases List.mem_append.1 hy with hy | hy
            · exact ⟨_, List.mem_cons_self, (hA y hy).symm⟩
            · obtain ⟨p, p1, p2⟩ := i3 y hy
              exact ⟨p, List.mem_cons_of_mem _ p1, p2⟩
  exact h _ s (Nat.le_refl _) hs
theorem strict_eq {β : Type} (f : β → Int) : ∀ (A B : List β), A.Pairwise (fun a b => f a < f b) → B.Pairwise (fun a b => f a < f b) → (∀ a ∈ A, a ∈ B) → (∀ b ∈ B, b ∈ A) → A = B
  | [], [], _, _, _, _ => rfl
  | [], b :: B, _, _, _, h => by have := h b (by simp); simp at this
  | a :: A, [], _, _, h, _ => by have := h a (by simp); simp at this
  | a :: A, b :: B, hA, hB, h1, h2 => by
    obtain ⟨a1, a2⟩ := List.pairwise_cons.1 hA
    obtain ⟨b1, b2⟩ := List.pairwise_cons.1 hB
    have e : a = b := by
      rcases List.mem_cons.1 (h1 a (by simp)) with h | h
      · exact h
      · rcases List.mem_cons.1 (h2 b (by simp)) with h' | h'
        · exact h'.symm
        · have := b1 a h; have := a1 b h'; omega
    subst e
    rw [strict_eq f A B a2 b2 (fun x hx => ?_) (fun x hx => ?_)]
    · rcases List.mem_cons.1 (h1 x (by simp [hx])) with h | h
      · subst h; have := a1 x hx; omega
      · exact h
    · rcases List.mem_cons.1 (h2 x (by simp [hx])) with h | h
      · subst h; have := b1 x hx; omega
      · exact h
/-- the plain law -/
theorem runs_kinds (hk : ∀ x, key (nz x) = key x) {L s : List α} (hn : ∀ x ∈ L, ∀ y ∈ L, key x = key y → nz x = nz y) (hp : s.Perm L) (hs : s.Pairwise fun a b => key a ≤ key b) :
    (runs key s).map (fun p => (nz p.1, p.2)) = (kinds key nz L).map fun k => (k, cntK key L k) := by
  obtain ⟨r1, r2, r3⟩ := runs_spec key s hs
  obtain ⟨k1, k2, k3⟩ := kinds_spec key nz hk L
  have cn : ∀ x, cntK key L (nz x) = cntK key L x := fun x => by unfold cntK; rw [hk]
  refine strict_eq (fun q => key q.1) _ _ ?_ ?_ ?_ ?_
  · rw [List.pairwise_map]
    exact r1.imp fun h => by simpa only [hk] using h
  · rw [List.pairwise_map]
    exact k1
  · intro q hq
    obtain ⟨p, p1, rfl⟩ := List.mem_map.1 hq
    obtain ⟨j1, j2⟩ := r2 p p1
    have hpL := hp.mem_iff.1 j1
    obtain ⟨k, q1, q2⟩ := k3 p.1 hpL
    obtain ⟨x, x1, rfl⟩ := k2 k q1
    rw [hk] at q2
    refine List.mem_map.2 ⟨nz x, q1, ?_⟩
    rw [hn x x1 p.1 hpL q2, cn, j2, cntK_perm key hp]
  · intro q hq
    obtain ⟨k, q1, rfl⟩ := List.mem_map.1 hq
    obtain ⟨x, x1, rfl⟩ := k2 k q1
    obtain ⟨p, p1, p2⟩ := r3 x (hp.mem_iff.2 x1)
    obtain ⟨j1, j2⟩ := r2 p p1
    have hpL := hp.mem_iff.1 j1
    refine List.mem_map.2 ⟨p, p1, ?_⟩
    rw [hn p.1 hpL x x1 p2, cn, j2, cntK_perm key hp]
    unfold cntK
    rw [p2]
end
end Go.Proofs.Cost58
namespace Go.Proofs.Cost58
open Go Go.Proofs Go.Ab Pz
set_option maxRecDepth 100000

theorem plc (l : List Pl) : ∀ y ∈ l.map plV, y.cells.length = 4 := fun y hy => by obtain ⟨m, _, rfl⟩ := List.mem_map.1 hy; rfl
theorem clone_vc (l : List Pl) (hl : l.length ≤ 1000000) : fnVC T Tryd.prog Tryd.f39 [.sl (l.map plV)] (.own 102 (l.map plV)) := by
  have hll : (l.map plV).length = l.length := by simp
  repeat' ((conv => whnf); first
    | (refine nilVC.mk rfl (of_decide_eq_true (by kernel_rfl)) (by kernel_rfl) (.inl rfl) ?_; intro b hb; cases b)
    | refine need_app rfl (.inl rfl) rfl (of_decide_eq_true rfl) (plc l) (by show 0 + (List.map plV l).length ≤ _; rw [List.length_map]; omega) ?_
    | refine seq_go ?_
    | refine draw_i (by kernel_rfl) ?_
    | refine arith_half (by omega) ?_
    | refine arith_in (by omega) ?_
    | refine arith_u (by omega) ?_
    | refine need_i (p := (T.row _).eq = true) (by kernel_rfl) ?_
    | refine need_i (by omega) ?_
    | refine br_not ?_
    | refine br_dec (fun hd => ?_) (fun hd => ?_)
    | refine br_lt (fun hlt => ?_) (fun hlt => ?_)
    | refine br_le (fun hle => ?_) (fun hle => ?_)
    | refine br_eq (fun heq => ?_) (fun heq => ?_)
    | refine idx_map (by omega) (fun x hx => ?_)
    | refine live_i rfl (fun h => by cases h) ?_
    | refine branch_s (fun hbb => ?_) (fun hbb => ?_)
    | refine ret_i ?_)
  all_goals (conv => whnf)
  · exact ⟨⟨⟨rfl, rfl, rfl, rfl⟩, trivial⟩, rfl, fun _ h => by cases h⟩
  · have e : l = [] := by
      cases l with
      | nil => rfl
      | cons x l => exact absurd (hb (by simp)) (by decide)
    subst e
    exact ⟨⟨⟨of_decide_eq_true (by kernel_rfl), rfl⟩, trivial⟩, rfl, fun _ h => by cases h⟩
theorem clone_spec (l : List Pl) (hl : l.length ≤ 1000000) : Sp 39 [.sl (l.map plV)] (.own 102 (l.map plV)) := sp_of Tryd.func39 (by kernel_rfl) (by kernel_rfl) (clone_vc l hl)
end Go.Proofs.Cost58
