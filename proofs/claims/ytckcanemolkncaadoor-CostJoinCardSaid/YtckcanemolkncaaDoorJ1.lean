/-
  Programs joined, walked: the library's Grow and Concat.
-/
import Derived.Test.YtckcanemolkncaaDoorM3
import Derived.Test.YtckcanemolkncaaDoorL2
import Derived.Shelf.Spec.SlicesGrow
set_option linter.unusedVariables false
set_option linter.unusedSimpArgs false
namespace Go.Proofs
open Go.Shelf
def Tryd.laysGrow_ren : Go.Shelf.Ren := ⟨fun | 4 => 86 | n => n, fun | 22 => 55 | 25 => 67 | n => n, fun n => n⟩
theorem Tryd.laysGrow : Go.Proofs.Lays8.n4 Tryd.prog Tryd.laysGrow_ren := {
  mixed := by kernel_rfl
  f4 := ⟨Tryd.f86.name, by decide, Tryd.func86.trans (congrArg some (by kernel_rfl))⟩
  t0 := Tryd.underlying0
  a0 := Tryd.isAgg0
  z0 := Tryd.sizeOf0
  v0 := Tryd.zeroValue0
  t3 := Tryd.underlying3
  a3 := Tryd.isAgg3
  z3 := Tryd.sizeOf3
  v3 := Tryd.zeroValue3
  t4 := Tryd.underlying4
  a4 := Tryd.isAgg4
  z4 := Tryd.sizeOf4
  v4 := Tryd.zeroValue4
  t9 := Tryd.underlying9
  a9 := Tryd.isAgg9
  z9 := Tryd.sizeOf9
  v9 := Tryd.zeroValue9
  t20 := Tryd.underlying20
  a20 := Tryd.isAgg20
  z20 := Tryd.sizeOf20
  v20 := Tryd.zeroValue20
  t22 := Tryd.underlying55
  a22 := Tryd.isAgg55
  z22 := Tryd.sizeOf55
  v22 := Tryd.zeroValue55 }
end Go.Proofs
namespace Go.Proofs.Cost58
open Go Go.Proofs Go.Ab Go.RowKit
set_option maxRecDepth 100000

theorem row67 : RowOk Tryd.prog 67 (T.row 67) := tabOk 67 (of_decide_eq_true (by kernel_rfl))
theorem size67 : (T.row 67).size = 3 := by kernel_rfl
theorem bytes67 : (T.row 67).bytes = 24 := by kernel_rfl
/-- Grow at the nil slice: an empty slice of the call's own -/
theorem grow_spec (n : Nat) (hn : n ≤ 1000000) : Sp 86 [.lit (.slice none 0 0), I n] (.own 67 []) := by
  refine ⟨by kernel_rfl, fun w G cs h1 h2 h3 h4 h5 => ?_⟩
  obtain ⟨v0, v1, rfl⟩ := arr2 h1
  have r0 : v0 = .slice none 0 0 := rb_lit (h4 0 v0 _ rfl rfl)
  have r1 : v1 = .int .i64 n := rb_lit (h4 1 v1 (I n) rfl rfl)
  subst r0 r1
  have h67 : 67 < T.n 67 := of_decide_eq_true (by kernel_rfl)
  rcases Nat.eq_zero_or_pos n with rfl | hpos
  · refine (Any8.slices_Grow_room Tryd.laysGrow none 0 0 0 w (Nat.le_refl _) (by decide) (by decide) (by decide)).mono ?_
    rintro e w' ⟨rfl, rfl⟩
    refine ⟨_, G, rfl, ⟨h67, by simp only [pureL, V.okL], .inl ⟨rfl, rfl⟩⟩, fun _ h => h, h2, h3, fun b hb => ?_, fun _ _ _ => rfl, Nat.le_refl _, rfl, rfl, rfl⟩
    cases hO : G.O b with
    | ext => exact absurd hO hb
    | fz => exact .inl ⟨rfl, rfl⟩
    | bx i => exact absurd hO (h3 b i)
    | ar j => exact .inr (.inr ⟨j, rfl⟩)
  · obtain ⟨i0, hi0, hsz, hby, z, hz, hzc, _, hzl, _, _⟩ := row67.info
    rw [size67] at hsz hzl
    rw [bytes67] at hby
    have hzs : z.cells.size = 3 := by rw [← Array.length_toList, hzc, hzl]
    have hcall : Calls Tryd.prog 86 #[.slice none 0 0, .int .i64 n] w fun e w' => e = .returned (.slice (some ⟨w.heap.size, 0, none⟩) 0 (grownCap w (0 + n) 0 67)) ∧
        w' = w.drew.alloc (.cells (([] : List Value).toArray ++ Builtin.zeroCells z.cells (0 + n - 0) ++ Builtin.zeroCells z.cells (grownCap w (0 + n) 0 67 - (0 + n))) 67) :=
      Any8.slices_Grow_grow Tryd.laysGrow i0 z hi0 hz (by omega) none 0 0 n [] w (Nat.le_refl _) (by omega) (by rw [hby]; omega) (by omega) (by simp) (fun _ => rfl) (fun a h => by cases h)
    refine hcall.mono ?_
    rintro e w' ⟨rfl, rfl⟩
    have hge := grownCap_ge w (0 + n) 0 67
    have hle := grownCap_le_maxLen w (0 + n) 0 67 (by unfold maxLen; omega)
    have hsize : (w.drew.alloc (.cells (([] : List Value).toArray ++ Builtin.zeroCells z.cells (0 + n - 0) ++ Builtin.zeroCells z.cells (grownCap w (0 + n) 0 67 - (0 + n))) 67)).heap.size = w.heap.size + 1 := Array.size_push _
    have hnew : (w.drew.alloc (.cells (([] : List Value).toArray ++ Builtin.zeroCells z.cells (0 + n - 0) ++ Builtin.zeroCells z.cells (grownCap w (0 + n) 0 67 - (0 + n))) 67)).heap[w.heap.size]? = some (.cells (([] : List Value).toArray ++ Builtin.zeroCells z.cells (0 + n - 0) ++ Builtin.zeroCells z.cells (grownCap w (0 + n) 0 67 - (0 + n))) 67 (0, 0)) := Array.getElem?_push_size
    have hold : ∀ b, b < w.heap.size → (w.drew.alloc (.cells (([] : List Value).toArray ++ Builtin.zeroCells z.cells (0 + n - 0) ++ Builtin.zeroCells z.cells (grownCap w (0 + n) 0 67 - (0 + n))) 67)).heap[b]? = w.heap[b]? := by
      intro b hb
      have : (w.drew.alloc (.cells (([] : List Value).toArray ++ Builtin.zeroCells z.cells (0 + n - 0) ++ Builtin.zeroCells z.cells (grownCap w (0 + n) 0 67 - (0 + n))) 67)).heap = w.heap.push _ := rfl
      rw [this, Array.getElem?_push_lt hb, Array.getElem?_eq_getElem hb]
    refine ⟨_, { G with O := upd G.O w.heap.size (.ar 0) }, rfl, ⟨h67, by simp only [pureL, V.okL], .inr ⟨w.heap.size, _, _, rfl, upd_same _ _ _, hnew, Nat.zero_le _, hle, ?_, by simp, ?_⟩⟩, ?_, ?_, ?_, ?_, fun b hb _ => hold b hb, by rw [hsize]; omega, rfl, rfl, rfl⟩
    · rw [Array.size_append, Array.size_append, size_zeroCells, size_zeroCells, hzs, size67]
      show 0 + (0 + n - 0) * 3 + (grownCap w (0 + n) 0 67 - (0 + n)) * 3 = grownCap w (0 + n) 0 67 * 3
      omega
    · refine ⟨by simp, by simp, by simp⟩
    · intro b hb
      have : b ≠ w.heap.size := fun e => by have := h2 b (by rw [hb]; simp); omega
      show upd G.O w.heap.size (.ar 0) b = .fz
      rw [upd_ne _ _ this]; exact hb
    · intro b hb
      rw [hsize]
      change upd G.O w.heap.size (.ar 0) b ≠ .ext at hb
      by_cases e : b = w.heap.size
      · omega
      · have hb' : G.O b ≠ .ext := by
          have := hb
          rw [show (upd G.O w.heap.size (Tag.ar 0)) b = G.O b from upd_ne _ _ e] at this
          exact this
        have := h2 b hb'
        omega
    · intro b i hb
      change upd G.O w.heap.size (.ar 0) b = .bx i at hb
      by_cases e : b = w.heap.size
      · subst e
        rw [show (upd G.O w.heap.size (Tag.ar 0)) w.heap.size = .ar 0 from upd_same _ _ _] at hb
        cases hb
      · rw [show (upd G.O w.heap.size (Tag.ar 0)) b = G.O b from upd_ne _ _ e] at hb
        exact h3 b i hb
    · intro b hb
      change upd G.O w.heap.size (.ar 0) b ≠ .ext at hb
      show (G.O b = .fz ∧ upd G.O w.heap.size (.ar 0) b = .fz) ∨ _
      by_cases e : b = w.heap.size
      · exact .inr (.inl (by omega))
      · rw [show (upd G.O w.heap.size (Tag.ar 0)) b = G.O b from upd_ne _ _ e] at hb ⊢
        cases hO : G.O b with
        | ext => exact absurd hO hb
        | fz => exact .inl ⟨rfl, rfl⟩
        | bx i => exact absurd hO (h3 b i)
        | ar j => exact .inr (.inr ⟨j, rfl⟩)

def slM (l : List Mv) : V := .sl (l.map mvV)
theorem concat_vc (L : List (List Mv)) (hL : L.length ≤ 100) (hs : ∀ l ∈ L, l.length ≤ 10000) : fnVC T Tryd.prog Tryd.f54 [.sl (L.map slM)] (.own 67 (L.flatten.map mvV)) := by
  have hll : (L.map slM).length = L.length := by simp
  have hfl : ∀ D : List (List Mv), (∀ l ∈ D, l.length ≤ 10000) → D.flatten.length ≤ D.length * 10000 := by
    intro D
    induction D with
    | nil => intro _; simp
    | cons d D ih =>
      intro h
      have h1 := h d (by simp)
      have h2 := ih (fun l hl => h l (by simp [hl]))
      simp only [List.flatten_cons, List.length_append, List.length_cons]; omega
  repeat' ((conv => whnf); first
    | refine seq_go ?_
    | refine draw_i (by kernel_rfl) ?_
    | refine arith_half (by omega) ?_
    | refine arith_in (by omega) ?_
    | refine arith_u (by omega) ?_
    | refine need_i (p := (T.row _).eq = true) (by kernel_rfl) ?_
    | refine need_i (by omega) ?_
    | refine br_not ?_
    | refine br_dec (fun hd => ?_) (fun hd => ?_)
    | refine br_lt (fun hlt => ?_) (fun hlt => ?_)
    | refine br_le (fun hle => ?_) (fun hle => ?_)
    | refine br_eq (fun heq => ?_) (fun heq => ?_)
    | refine idx_map (by omega) (fun x hx => ?_)
    | refine live_i rfl (fun h => by cases h) ?_
    | refine branch_s (fun hbb => ?_) (fun hbb => ?_)
    | refine ret_i ?_)
  refine loop_2 (A := List (List Mv)) (B := List (List Mv)) (fun D R => mkSt [(0, .sl (L.map slM)), (3, I D.flatten.length), (9, .sl (L.map slM)), (10, I L.length), (11, I D.length)] [] [])
    (fun D R => L = D ++ R) (fun D R => R.length) [] L ?_ rfl (fun D R hp => ?_)
  · refine le_mk ?_ ?_ ?_ ?_
    all_goals repeat' (first | exact trivial | refine And.intro ?_ ?_ | with_reducible rfl | exact Nat.le_refl _ | omega | exact rfl)
  · have h1 : L = D ++ R := hp
    have hlen : L.length = D.length + R.length := by rw [h1]; simp
    have hD := hfl D (fun l hl => hs l (by rw [h1]; simp [hl]))
    cases R with
    | cons x R =>
      rw [List.length_cons] at hlen
      have hx := hs x (by rw [h1]; simp)
      have hxm : (x.map mvV).length = x.length := by simp
      repeat' ((conv => whnf); first
        | (exfalso; omega)
        | refine idx_mid (l := L) (A := D) (x := x) (B := R) h1 (by omega) ?_
        | refine seq_go ?_
        | refine draw_i (by kernel_rfl) ?_
        | refine arith_half (by omega) ?_
        | refine arith_in (by omega) ?_
        | refine arith_u (by omega) ?_
        | refine need_i (p := (T.row _).eq = true) (by kernel_rfl) ?_
        | refine need_i (by omega) ?_
        | refine br_not ?_
        | refine br_dec (fun hd => ?_) (fun hd => ?_)
        | refine br_lt (fun hlt => ?_) (fun hlt => ?_)
        | refine br_le (fun hle => ?_) (fun hle => ?_)
        | refine br_eq (fun heq => ?_) (fun heq => ?_)
        | refine idx_map (by omega) (fun x hx => ?_)
        | refine live_i rfl (fun h => by cases h) ?_
        | refine branch_s (fun hbb => ?_) (fun hbb => ?_)
        | refine ret_i ?_)
      conv => whnf
      refine ⟨(D ++ [x], R), ?_, ?_, ?_⟩
      · refine le_mk ?_ ?_ ?_ ?_
        all_goals repeat' (first | exact trivial | refine And.intro ?_ ?_ | with_reducible rfl | exact Nat.le_refl _ | omega | exact rfl)
        · show (D.flatten.length : Int) + ((x.map mvV).length : Nat) = ((D ++ [x]).flatten.length : Nat)
          rw [hxm]; simp
        · show (D.length : Int) + 1 = (D ++ [x]).length
          simp
      · show L = D ++ [x] ++ R
        rw [h1]; simp
      · show R.length < (x :: R).length
        simp
    | nil =>
      have e : L = D := by rw [h1]; simp
      simp at hlen
      repeat' ((conv => whnf); first
        | (exfalso; omega)
        | (refine call_i (grow_spec D.flatten.length (by omega)) false ?_ rfl ?_; focus ((repeat' (first | exact trivial | refine And.intro ?_ ?_ | with_reducible rfl | exact (fun h => by cases h) | exact rfl)); done))
        | refine seq_go ?_
        | refine draw_i (by kernel_rfl) ?_
        | refine arith_half (by omega) ?_
        | refine arith_in (by omega) ?_
        | refine arith_u (by omega) ?_
        | refine need_i (p := (T.row _).eq = true) (by kernel_rfl) ?_
        | refine need_i (by omega) ?_
        | refine br_not ?_
        | refine br_dec (fun hd => ?_) (fun hd => ?_)
        | refine br_lt (fun hlt => ?_) (fun hlt => ?_)
        | refine br_le (fun hle => ?_) (fun hle => ?_)
        | refine br_eq (fun heq => ?_) (fun heq => ?_)
        | refine idx_map (by omega) (fun x hx => ?_)
        | refine live_i rfl (fun h => by cases h) ?_
        | refine branch_s (fun hbb => ?_) (fun hbb => ?_)
        | refine ret_i ?_)
      clear h1 hp hlen hD
      refine loop_2 (A := List (List Mv)) (B := List (List Mv)) (fun D R => mkSt [(6, .arr 24 D.length), (25, .sl (L.map slM)), (26, I L.length), (27, I D.length)] [] [(24, ⟨D.length, .own, 67, D.flatten.map mvV⟩)])
        (fun D R => L = D ++ R) (fun D R => R.length) [] L ?_ rfl (fun D R hp => ?_)
      · refine le_mk ?_ ?_ ?_ ?_
        all_goals repeat' (first | exact trivial | refine And.intro ?_ ?_ | with_reducible rfl | exact Nat.le_refl _ | omega | exact rfl)
      · have h1 : L = D ++ R := hp
        have hlen : L.length = D.length + R.length := by rw [h1]; simp
        have hD := hfl D (fun l hl => hs l (by rw [h1]; simp [hl]))
        cases R with
        | cons x R =>
          rw [List.length_cons] at hlen
          have hx := hs x (by rw [h1]; simp)
          repeat' ((conv => whnf); first
            | (exfalso; omega)
            | refine idx_mid (l := L) (A := D) (x := x) (B := R) h1 (by omega) ?_
            | refine need_app rfl (.inl rfl) rfl (of_decide_eq_true rfl) (fun y hy => by obtain ⟨m, _, rfl⟩ := List.mem_map.1 hy; rfl) (by show (List.map mvV D.flatten).length + (List.map mvV x).length ≤ _; rw [List.length_map, List.length_map]; omega) ?_
            | refine seq_go ?_
            | refine draw_i (by kernel_rfl) ?_
            | refine arith_half (by omega) ?_
            | refine arith_in (by omega) ?_
            | refine arith_u (by omega) ?_
            | refine need_i (p := (T.row _).eq = true) (by kernel_rfl) ?_
            | refine need_i (by omega) ?_
            | refine br_not ?_
            | refine br_dec (fun hd => ?_) (fun hd => ?_)
            | refine br_lt (fun hlt => ?_) (fun hlt => ?_)
            | refine br_le (fun hle => ?_) (fun hle => ?_)
            | refine br_eq (fun heq => ?_) (fun heq => ?_)
            | refine idx_map (by omega) (fun x hx => ?_)
            | refine live_i rfl (fun h => by cases h) ?_
            | refine branch_s (fun hbb => ?_) (fun hbb => ?_)
            | refine ret_i ?_)
          conv => whnf
          refine ⟨(D ++ [x], R), ?_, ?_, ?_⟩
          · refine le_mk ?_ ?_ ?_ ?_
            all_goals repeat' (first | exact trivial | refine And.intro ?_ ?_ | with_reducible rfl | exact Nat.le_refl _ | omega | exact rfl)
            all_goals first
              | (show D.length + 1 = (D ++ [x]).length; simp; done)
              | (show List.map mvV D.flatten ++ List.map mvV x = List.map mvV (D ++ [x]).flatten; simp; done)
              | (show (D.length : Int) + 1 = (D ++ [x]).length; simp; done)
          · show L = D ++ [x] ++ R
            rw [h1]; simp
          · show R.length < (x :: R).length
            simp
        | nil =>
          have e : L = D := by rw [h1]; simp
          simp at hlen
          repeat' ((conv => whnf); first
            | (exfalso; omega)
            | refine seq_go ?_
            | refine draw_i (by kernel_rfl) ?_
            | refine arith_half (by omega) ?_
            | refine arith_in (by omega) ?_
            | refine arith_u (by omega) ?_
            | refine need_i (p := (T.row _).eq = true) (by kernel_rfl) ?_
            | refine need_i (by omega) ?_
            | refine br_not ?_
            | refine br_dec (fun hd => ?_) (fun hd => ?_)
            | refine br_lt (fun hlt => ?_) (fun hlt => ?_)
            | refine br_le (fun hle => ?_) (fun hle => ?_)
            | refine br_eq (fun heq => ?_) (fun heq => ?_)
            | refine idx_map (by omega) (fun x hx => ?_)
            | refine live_i rfl (fun h => by cases h) ?_
            | refine branch_s (fun hbb => ?_) (fun hbb => ?_)
            | refine ret_i ?_)
          conv => whnf
          refine ⟨⟨⟨rfl, rfl, rfl, ?_⟩, trivial⟩, rfl, fun _ h => by cases h⟩
          show List.map mvV D.flatten = List.map mvV L.flatten
          rw [e]
theorem concat_spec (L : List (List Mv)) (hL : L.length ≤ 100) (hs : ∀ l ∈ L, l.length ≤ 10000) : Sp 54 [.sl (L.map slM)] (.own 67 (L.flatten.map mvV)) := sp_of Tryd.func54 (by kernel_rfl) (by kernel_rfl) (concat_vc L hL hs)
theorem concat_at {xs ys : List V} {X Y Z : List Mv} (hx : xs = X.map mvV) (hy : ys = Y.map mvV) (hz : Z = X ++ Y) (h1 : X.length ≤ 10000) (h2 : Y.length ≤ 10000) : Sp 54 [.sl [.sl xs, .sl ys]] (.own 67 (Z.map mvV)) := by
  subst hx hy hz
  have := concat_spec [X, Y] (by simp) (fun l hl => by
    rcases List.mem_cons.1 hl with rfl | hl
    · exact h1
    · cases List.mem_singleton.1 hl; exact h2)
  rwa [show [X, Y].flatten = X ++ Y by simp] at this

def isEnd (m : Mv) : Prop := m.1 = 6
theorem end_vc (m : Mv) : fnVC T Tryd.prog Tryd.f53 [mvV m] (.lit (.bool (decB (isEnd m)))) := by
  repeat' ((conv => whnf); first
    | refine seq_go ?_
    | refine draw_i (by kernel_rfl) ?_
    | refine arith_half (by omega) ?_
    | refine arith_in (by omega) ?_
    | refine arith_u (by omega) ?_
    | refine need_i (p := (T.row _).eq = true) (by kernel_rfl) ?_
    | refine need_i (by omega) ?_
    | refine br_not ?_
    | refine br_dec (fun hd => ?_) (fun hd => ?_)
    | refine br_lt (fun hlt => ?_) (fun hlt => ?_)
    | refine br_le (fun hle => ?_) (fun hle => ?_)
    | refine br_eq (fun heq => ?_) (fun heq => ?_)
    | refine idx_map (by omega) (fun x hx => ?_)
    | refine live_i rfl (fun h => by cases h) ?_
    | refine branch_s (fun hbb => ?_) (fun hbb => ?_)
    | refine ret_i ?_)
  conv => whnf
  exact ret_boolD (eq_dec Iff.rfl)
theorem end_spec (m : Mv) : Sp 53 [mvV m] (.lit (.bool (decB (isEnd m)))) := sp_of Tryd.func53 (by kernel_rfl) (by kernel_rfl) (end_vc m)
theorem join49_vc (a b : List Mv) (ha : prOk a) (hb : prOk b) (hl : a.length + b.length ≤ 2000) (hn : ∀ m ∈ a, ¬ isEnd m) : fnVC T Tryd.prog Tryd.f23 [.sl (a.map mvV), .sl (b.map mvV)] (.tup [.own 67 ((a ++ b).map mvV), I 0]) := by
  have hla : (a.map mvV).length = a.length := by simp
  have hlb : (b.map mvV).length = b.length := by simp
  have hi := index_spec end_spec a (by omega)
  have hfi : fstI isEnd a = -1 := by unfold fstI; rw [if_neg (fst_none.2 hn)]
  rw [hfi] at hi
  repeat' ((conv => whnf); first
    | (refine call_i (valid49_spec a (by omega)) false ?_ rfl ?_; focus ((repeat' (first | exact trivial | refine And.intro ?_ ?_ | with_reducible rfl | exact (fun h => by cases h) | exact rfl)); done))
    | (refine call_i (valid49_spec b (by omega)) false ?_ rfl ?_; focus ((repeat' (first | exact trivial | refine And.intro ?_ ?_ | with_reducible rfl | exact (fun h => by cases h) | exact rfl)); done))
    | (exfalso; exact hd ha)
    | (exfalso; exact hd hb)
    | (refine call_i (hi) false ?_ rfl ?_; focus ((repeat' (first | exact trivial | refine And.intro ?_ ?_ | with_reducible rfl | exact (fun h => by cases h) | exact rfl)); done))
    | (exfalso; omega)
    | refine need_cut0 (by omega) (by omega) ?_
    | (refine call_i (concat_at (X := a) (Y := b) (Z := a ++ b) (by show List.drop 0 (List.take (((a.map mvV).length : Nat) : Int).toNat (a.map mvV)) = _; rw [List.drop_zero]; exact List.take_of_length_le (by omega)) rfl rfl (by omega) (by omega)) false ?_ rfl ?_; focus ((repeat' (first | exact trivial | refine And.intro ?_ ?_ | with_reducible rfl | exact (fun h => by cases h) | exact rfl)); done))
    | refine seq_go ?_
    | refine draw_i (by kernel_rfl) ?_
    | refine arith_half (by omega) ?_
    | refine arith_in (by omega) ?_
    | refine arith_u (by omega) ?_
    | refine need_i (p := (T.row _).eq = true) (by kernel_rfl) ?_
    | refine need_i (by omega) ?_
    | refine br_not ?_
    | refine br_dec (fun hd => ?_) (fun hd => ?_)
    | refine br_lt (fun hlt => ?_) (fun hlt => ?_)
    | refine br_le (fun hle => ?_) (fun hle => ?_)
    | refine br_eq (fun heq => ?_) (fun heq => ?_)
    | refine idx_map (by omega) (fun x hx => ?_)
    | refine live_i rfl (fun h => by cases h) ?_
    | refine branch_s (fun hbb => ?_) (fun hbb => ?_)
    | refine ret_i ?_)
  conv => whnf
  exact ret_two ⟨rfl, rfl, rfl, rfl⟩ rfl rfl
theorem join49_spec (a b : List Mv) (ha : prOk a) (hb : prOk b) (hl : a.length + b.length ≤ 2000) (hn : ∀ m ∈ a, ¬ isEnd m) : Sp 23 [.sl (a.map mvV), .sl (b.map mvV)] (.tup [.own 67 ((a ++ b).map mvV), I 0]) := sp_of Tryd.func23 (by kernel_rfl) (by kernel_rfl) (join49_vc a b ha hb hl hn)

/-! the plain law: a summary behind a head that came back -/
theorem sum_rel : ∀ (l : List Mv) (s t : Sm), s.pos = t.pos → (l.foldl stepS s).ra - s.ra = (l.foldl stepS t).ra - t.ra ∧ (l.foldl stepS s).cu - s.cu = (l.foldl stepS t).cu - t.cu ∧ (l.foldl stepS s).pi - s.pi = (l.foldl stepS t).pi - t.pi ∧ (l.foldl stepS s).jo - s.jo = (l.foldl stepS t).jo - t.jo
  | [], s, t, _ => by simp
  | m :: l, s, t, h => by
    have hp : (stepS s m).pos = (stepS t m).pos := by unfold stepS; split <;> (try split) <;> (try split) <;> (try split) <;> first | rfl | exact h
    have ih := sum_rel l (stepS s m) (stepS t m) hp
    have hd : (stepS s m).ra - s.ra = (stepS t m).ra - t.ra ∧ (stepS s m).cu - s.cu = (stepS t m).cu - t.cu ∧ (stepS s m).pi - s.pi = (stepS t m).pi - t.pi ∧ (stepS s m).jo - s.jo = (stepS t m).jo - t.jo := by
      unfold stepS
      rw [h]
      split
      · dsimp only; omega
      · split
        · dsimp only; omega
        · split
          · dsimp only; omega
          · split
            · dsimp only; omega
            · omega
    rw [List.foldl_cons, List.foldl_cons]
    omega
theorem sum_join (a b : List Mv) (h : (sumS a).pos = (0, 0)) : (sumS (a ++ b)).ra = (sumS a).ra + (sumS b).ra ∧ (sumS (a ++ b)).cu = (sumS a).cu + (sumS b).cu ∧ (sumS (a ++ b)).pi = (sumS a).pi + (sumS b).pi ∧ (sumS (a ++ b)).jo = (sumS a).jo + (sumS b).jo := by
  have := sum_rel b (sumS a) sm0 (by rw [h]; rfl)
  unfold sumS at this ⊢
  rw [List.foldl_append]
  have e1 : sm0.ra = 0 := rfl
  have e2 : sm0.cu = 0 := rfl
  have e3 : sm0.pi = 0 := rfl
  have e4 : sm0.jo = 0 := rfl
  omega
/-- the first program: without End, the head back -/
def firstP (a : List Mv) : List Mv := a.filter (fun m => decide (m.1 ≠ 6)) ++ [(1, (0, 0))]
theorem firstP_ok {a : List Mv} (h : prOk a) (hl : a.length ≤ 60) : prOk (firstP a) ∧ (firstP a).length ≤ 61 ∧ (∀ m ∈ firstP a, ¬ isEnd m) ∧ (sumS (firstP a)).pos = (0, 0) := by
  have hf : (a.filter (fun m => decide (m.1 ≠ 6))).length ≤ a.length := List.length_filter_le _ _
  have hfl : (firstP a).length ≤ 61 := by unfold firstP; rw [List.length_append, List.length_singleton]; omega
  refine ⟨⟨by omega, fun m hm => ?_⟩, hfl, fun m hm => ?_, ?_⟩
  · unfold firstP at hm
    rcases List.mem_append.1 hm with hm | hm
    · exact h.2 m (List.mem_filter.1 hm).1
    · rw [List.mem_singleton.1 hm]
      exact .inl ⟨.inl rfl, by unfold within; decide⟩
  · unfold firstP at hm
    rcases List.mem_append.1 hm with hm | hm
    · have := (List.mem_filter.1 hm).2
      unfold isEnd
      simpa using this
    · rw [List.mem_singleton.1 hm]; unfold isEnd; decide
  · unfold firstP
    rw [sumS_snoc]
    unfold stepS
    rw [if_pos rfl]
end Go.Proofs.Cost58
