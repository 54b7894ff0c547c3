/-
  A list of strings, sorted in place.
  Invoices in plain Lean: what the lines are.
  Invoices, walked.
-/
import Derived.Test.YtckcanemolkncaaDoorH25
set_option linter.unusedVariables false
set_option linter.unusedSimpArgs false
namespace Go.Proofs.Cost58
open Go Go.Proofs Go.Ab
set_option maxRecDepth 100000

theorem arith_eq {k : IntKind} {n m : Int} {K : Int → Prop} (h : k.wrap n = m) (hk : K m) : arith k n K := ⟨by rw [h]; exact hk⟩
theorem len64_0 : Sp 119 [.lit (.int .u64 0)] (I 0) := by
  refine sp_of Tryd.func119 (by kernel_rfl) (by kernel_rfl) ?_
  repeat' ((conv => whnf); first
    | (exfalso; omega)
    | refine arith_eq (m := 0) (by decide) ?_
    | refine need_i ⟨by decide, of_decide_eq_true (by kernel_rfl)⟩ ?_
    | refine arith_eq (m := 0) (by unfold byteAt; decide +kernel) ?_
    | refine seq_go ?_
    | refine draw_i (by kernel_rfl) ?_
    | refine arith_half (by omega) ?_
    | refine arith_in (by omega) ?_
    | refine arith_u (by omega) ?_
    | refine need_i (p := (T.row _).eq = true) (by kernel_rfl) ?_
    | refine need_i (by omega) ?_
    | refine br_not ?_
    | refine br_dec (fun hd => ?_) (fun hd => ?_)
    | refine br_lt (fun hlt => ?_) (fun hlt => ?_)
    | refine br_le (fun hle => ?_) (fun hle => ?_)
    | refine br_eq (fun heq => ?_) (fun heq => ?_)
    | refine idx_map (by omega) (fun x hx => ?_)
    | refine live_i rfl (fun h => by cases h) ?_
    | refine branch_s (fun hbb => ?_) (fun hbb => ?_)
    | refine ret_i ?_
    | refine retB_i ?_)
  all_goals (conv => whnf)
  exact ret_int rfl
theorem len_0 : Sp 89 [.lit (.int .u64 0)] (I 0) := by
  refine sp_of Tryd.func89 (by kernel_rfl) (by kernel_rfl) ?_
  repeat' ((conv => whnf); first
    | (refine call_i (len64_0) false ?_ rfl ?_; focus ((repeat' (first | exact trivial | refine And.intro ?_ ?_ | with_reducible rfl | exact (fun h => by cases h) | exact rfl)); done))
    | refine arith_eq (m := 0) (by decide) ?_
    | refine seq_go ?_
    | refine draw_i (by kernel_rfl) ?_
    | refine arith_half (by omega) ?_
    | refine arith_in (by omega) ?_
    | refine arith_u (by omega) ?_
    | refine need_i (p := (T.row _).eq = true) (by kernel_rfl) ?_
    | refine need_i (by omega) ?_
    | refine br_not ?_
    | refine br_dec (fun hd => ?_) (fun hd => ?_)
    | refine br_lt (fun hlt => ?_) (fun hlt => ?_)
    | refine br_le (fun hle => ?_) (fun hle => ?_)
    | refine br_eq (fun heq => ?_) (fun heq => ?_)
    | refine idx_map (by omega) (fun x hx => ?_)
    | refine live_i rfl (fun h => by cases h) ?_
    | refine branch_s (fun hbb => ?_) (fun hbb => ?_)
    | refine ret_i ?_
    | refine retB_i ?_)
  all_goals (conv => whnf)
  exact ret_int rfl
theorem ins0_io : SpIO 109 [.own 9 [], I 0, I 0] (.tup []) 9 [] := by
  refine io_of rfl Tryd.func109 (by kernel_rfl) (by kernel_rfl) ?_
  repeat' ((conv => whnf); first
    | refine seq_go ?_
    | refine draw_i (by kernel_rfl) ?_
    | refine arith_half (by omega) ?_
    | refine arith_in (by omega) ?_
    | refine arith_u (by omega) ?_
    | refine need_i (p := (T.row _).eq = true) (by kernel_rfl) ?_
    | refine need_i (by omega) ?_
    | refine br_not ?_
    | refine br_dec (fun hd => ?_) (fun hd => ?_)
    | refine br_lt (fun hlt => ?_) (fun hlt => ?_)
    | refine br_le (fun hle => ?_) (fun hle => ?_)
    | refine br_eq (fun heq => ?_) (fun heq => ?_)
    | refine idx_map (by omega) (fun x hx => ?_)
    | refine live_i rfl (fun h => by cases h) ?_
    | refine branch_s (fun hbb => ?_) (fun hbb => ?_)
    | refine ret_i ?_
    | refine retB_i ?_)
  refine loop_i (A := Unit) (fun _ => mkSt [(0, .arr 0 0), (1, I 0), (2, I 0), (6, I 1)] [] [(0, ⟨0, .own, 9, []⟩)]) (fun _ => True) (fun _ => 0) () ?_ trivial (fun _ _ => ?_)
  · refine le_mk ?_ ?_ ?_ ?_
    all_goals repeat' (first | exact trivial | refine And.intro ?_ ?_ | with_reducible rfl | exact Nat.le_refl _ | omega | exact rfl)
  · repeat' ((conv => whnf); first
      | (exfalso; omega)
      | refine seq_go ?_
      | refine draw_i (by kernel_rfl) ?_
      | refine arith_half (by omega) ?_
      | refine arith_in (by omega) ?_
      | refine arith_u (by omega) ?_
      | refine need_i (p := (T.row _).eq = true) (by kernel_rfl) ?_
      | refine need_i (by omega) ?_
      | refine br_not ?_
      | refine br_dec (fun hd => ?_) (fun hd => ?_)
      | refine br_lt (fun hlt => ?_) (fun hlt => ?_)
      | refine br_le (fun hle => ?_) (fun hle => ?_)
      | refine br_eq (fun heq => ?_) (fun heq => ?_)
      | refine idx_map (by omega) (fun x hx => ?_)
      | refine live_i rfl (fun h => by cases h) ?_
      | refine branch_s (fun hbb => ?_) (fun hbb => ?_)
      | refine ret_i ?_
      | refine retB_i ?_)
    refine retIO_i ?_
    conv => whnf
    refine ⟨[], rfl, ?_, rfl⟩
    repeat' (first | exact trivial | refine And.intro ?_ ?_ | with_reducible rfl | exact Nat.le_refl _ | omega | exact rfl)
theorem pdq0_io : SpIO 88 [.own 9 [], I 0, I 0, I 0] (.tup []) 9 [] := by
  refine io_of rfl Tryd.func88 (by kernel_rfl) (by kernel_rfl) ?_
  repeat' ((conv => whnf); first
    | refine seq_go ?_
    | refine draw_i (by kernel_rfl) ?_
    | refine arith_half (by omega) ?_
    | refine arith_in (by omega) ?_
    | refine arith_u (by omega) ?_
    | refine need_i (p := (T.row _).eq = true) (by kernel_rfl) ?_
    | refine need_i (by omega) ?_
    | refine br_not ?_
    | refine br_dec (fun hd => ?_) (fun hd => ?_)
    | refine br_lt (fun hlt => ?_) (fun hlt => ?_)
    | refine br_le (fun hle => ?_) (fun hle => ?_)
    | refine br_eq (fun heq => ?_) (fun heq => ?_)
    | refine idx_map (by omega) (fun x hx => ?_)
    | refine live_i rfl (fun h => by cases h) ?_
    | refine branch_s (fun hbb => ?_) (fun hbb => ?_)
    | refine ret_i ?_
    | refine retB_i ?_)
  refine loop_i (A := Unit) (fun _ => mkSt [(0, .arr 0 0), (1, I 0), (2, I 0), (3, I 0), (8, .lit (.bool true)), (9, .lit (.bool true))] [] [(0, ⟨0, .own, 9, []⟩)]) (fun _ => True) (fun _ => 0) () ?_ trivial (fun _ _ => ?_)
  · refine le_mk ?_ ?_ ?_ ?_
    all_goals repeat' (first | exact trivial | refine And.intro ?_ ?_ | with_reducible rfl | exact Nat.le_refl _ | omega | exact rfl)
  · repeat' ((conv => whnf); first
      | (exfalso; omega)
      | (refine call_io_i (ins0_io) rfl rfl ?_ rfl rfl ?_; focus ((repeat' (first | exact trivial | refine And.intro ?_ ?_ | with_reducible rfl | exact (fun h => by cases h) | exact rfl)); done))
      | refine seq_go ?_
      | refine draw_i (by kernel_rfl) ?_
      | refine arith_half (by omega) ?_
      | refine arith_in (by omega) ?_
      | refine arith_u (by omega) ?_
      | refine need_i (p := (T.row _).eq = true) (by kernel_rfl) ?_
      | refine need_i (by omega) ?_
      | refine br_not ?_
      | refine br_dec (fun hd => ?_) (fun hd => ?_)
      | refine br_lt (fun hlt => ?_) (fun hlt => ?_)
      | refine br_le (fun hle => ?_) (fun hle => ?_)
      | refine br_eq (fun heq => ?_) (fun heq => ?_)
      | refine idx_map (by omega) (fun x hx => ?_)
      | refine live_i rfl (fun h => by cases h) ?_
      | refine branch_s (fun hbb => ?_) (fun hbb => ?_)
      | refine ret_i ?_
      | refine retB_i ?_)
    refine retIO_i ?_
    conv => whnf
    refine ⟨[], rfl, ?_, rfl⟩
    repeat' (first | exact trivial | refine And.intro ?_ ?_ | with_reducible rfl | exact Nat.le_refl _ | omega | exact rfl)
theorem sort0_io : SpIO 58 [.own 9 []] (.tup []) 9 [] := by
  refine io_of rfl Tryd.func58 (by kernel_rfl) (by kernel_rfl) ?_
  repeat' ((conv => whnf); first
    | (refine call_i (len_0) false ?_ rfl ?_; focus ((repeat' (first | exact trivial | refine And.intro ?_ ?_ | with_reducible rfl | exact (fun h => by cases h) | exact rfl)); done))
    | (refine call_io_i (pdq0_io) rfl rfl ?_ rfl rfl ?_; focus ((repeat' (first | exact trivial | refine And.intro ?_ ?_ | with_reducible rfl | exact (fun h => by cases h) | exact rfl)); done))
    | refine arith_eq (m := 0) (by decide) ?_
    | refine seq_go ?_
    | refine draw_i (by kernel_rfl) ?_
    | refine arith_half (by omega) ?_
    | refine arith_in (by omega) ?_
    | refine arith_u (by omega) ?_
    | refine need_i (p := (T.row _).eq = true) (by kernel_rfl) ?_
    | refine need_i (by omega) ?_
    | refine br_not ?_
    | refine br_dec (fun hd => ?_) (fun hd => ?_)
    | refine br_lt (fun hlt => ?_) (fun hlt => ?_)
    | refine br_le (fun hle => ?_) (fun hle => ?_)
    | refine br_eq (fun heq => ?_) (fun heq => ?_)
    | refine idx_map (by omega) (fun x hx => ?_)
    | refine live_i rfl (fun h => by cases h) ?_
    | refine branch_s (fun hbb => ?_) (fun hbb => ?_)
    | refine ret_i ?_
    | refine retB_i ?_)
  refine retIO_i ?_
  conv => whnf
  refine ⟨[], rfl, ?_, rfl⟩
  repeat' (first | exact trivial | refine And.intro ?_ ?_ | with_reducible rfl | exact Nat.le_refl _ | omega | exact rfl)

/-- strings in ascending order -/
def sortL (l : List (List UInt8)) : List (List UInt8) := l.mergeSort fun x y => decide (x ≤ y)
def ofBs (l : List UInt8) : ByteArray := ⟨l.toArray⟩
def sortB (xs : List ByteArray) : List ByteArray := (sortL (xs.map (·.data.toList))).map ofBs
theorem cells_take {w : World} {G : Gh} {cur : List Value} {xs : List ByteArray} (h : RvL w G (cur.take (xs.length * 1)) ((xs.map S).flatMap V.cells)) (j : Nat) (x : ByteArray) (hx : xs[j]? = some x) : cur[j]? = some (.string x) := by
  rw [cells_strs] at h
  have hj : j < xs.length := (List.getElem?_eq_some_iff.1 hx).1
  have hl : (cur.take (xs.length * 1)).length = xs.length := by rw [h.len]; simp
  rw [Nat.mul_one] at h hl
  have hj2 : j < (cur.take xs.length).length := by omega
  have hv : (cur.take xs.length)[j]? = some (cur.take xs.length)[j] := List.getElem?_eq_getElem hj2
  have := (h.rel j _ (S x) hv (by rw [List.getElem?_map, hx]; rfl)).lit_eq
  rw [List.getElem?_take] at hv
  rw [if_pos hj] at hv
  rw [hv, this]
theorem sort_spec (xs : List ByteArray) (hlen : xs.length ≤ 1000000) : SpIO 58 [.own 9 (xs.map S)] (.tup []) 9 ((sortB xs).map S) := by
  by_cases hx : xs = []
  · subst hx
    have e : sortB [] = [] := by simp [sortB, sortL]
    rw [e]
    exact sort0_io
  refine ⟨by kernel_rfl, fun w G cs h1 h2 h3 h4 h5 => ?_⟩
  obtain ⟨v0, rfl⟩ : ∃ v0, cs = #[v0] := by
    obtain ⟨l⟩ := cs
    match l, h1 with
    | [a], _ => exact ⟨a, rfl⟩
  obtain ⟨t0, p0, own⟩ : 9 < T.n 9 ∧ pureL (xs.map S) ∧ OwnOk T w G 0 v0 9 (xs.map S) := h4 0 v0 _ rfl rfl
  have hsl : (sortL (xs.map (·.data.toList))).length = xs.length := by unfold sortL; rw [List.length_mergeSort, List.length_map]
  have hs1 : (T.row 9).size = 1 := by kernel_rfl
  rcases own with ⟨_, h0⟩ | ⟨b, cap, cur, rfl, hO, hh, hc1, hc2, hc3, hz, hrv⟩
  · simp at h0; exact absurd h0 hx
  rw [hs1] at hc3 hrv
  have hlx : (xs.map S).length = xs.length := by simp
  have hlx2 : (xs.map (·.data.toList)).length = xs.length := by simp
  rw [hlx] at hc1 hrv ⊢
  have hblk : b < w.heap.size := h2 b (by rw [hO]; simp)
  have hcur : ∀ j x, xs[j]? = some x → cur[j]? = some (Value.string x) := fun j x hj => by
    have := cells_take hrv j x hj
    simpa using this
  have hcell : ∀ (k : Nat), w.cell? ⟨b, k, none⟩ = cur[k]? := fun k => by simp [World.cell?, hh]
  have hH : Sort.Holds encStr w b 0 (xs.map (·.data.toList)).toArray := by
    intro j hj
    have hj' : j < xs.length := by simpa using hj
    rw [Nat.zero_add]
    refine ⟨?_, by simp [World.frozen?, hh]⟩
    rw [hcell, hcur j xs[j] (List.getElem?_eq_getElem hj')]
    have e : (xs.map (·.data.toList)).toArray[j]! = xs[j].data.toList := by simp [hj']
    rw [e]
  have hcalls := Any.slices_Sort_string Tryd.lays190 b 0 cap (xs.map (·.data.toList)) w hH hblk (by rw [hlx2]; omega)
  rw [hlx2] at hcalls
  refine Calls.mono hcalls ?_
  rintro e w' ⟨rfl, n, os, rfl⟩
  have hsz : (Sort.putRow encStr (Sort.ahead w n) b 0 (sortL (xs.map (·.data.toList))).toArray).heap.size = w.heap.size := by simp [Sort.putRow, Sort.mapBlock, Sort.ahead]
  have hne : ∀ b', b' < w.heap.size → b' ≠ b → (Sort.grow (Sort.putRow encStr (Sort.ahead w n) b 0 (sortL (xs.map (·.data.toList))).toArray) os).heap[b']? = w.heap[b']? := by
    intro b' hb hbb
    simp only [Sort.grow]
    rw [Array.getElem?_append_left (by rw [hsz]; exact hb)]
    simp only [Sort.putRow, Sort.mapBlock, Sort.ahead]
    rw [Array.getElem?_modify, if_neg (Ne.symm hbb)]
  have hbb : (Sort.grow (Sort.putRow encStr (Sort.ahead w n) b 0 (sortL (xs.map (·.data.toList))).toArray) os).heap[b]? = some (.cells (Sort.putCells encStr 0 (sortL (xs.map (·.data.toList))).toArray cur) 9 (0, 0)) := by
    simp only [Sort.grow]
    rw [Array.getElem?_append_left (by rw [hsz]; exact hblk)]
    simp only [Sort.putRow, Sort.mapBlock, Sort.ahead]
    rw [Array.getElem?_modify, if_pos rfl, hh]
    rfl
  have hcs : (Sort.putCells encStr 0 (sortL (xs.map (·.data.toList))).toArray cur).size = cap * 1 := by simp [Sort.putCells, hc3]
  have hget : ∀ (j : Nat) l, (sortL (xs.map (·.data.toList)))[j]? = some l → (Sort.putCells encStr 0 (sortL (xs.map (·.data.toList))).toArray cur)[j]? = some (Value.string (ofBs l)) := by
    intro j l hj
    have hjl : j < (sortL (xs.map (·.data.toList))).length := (List.getElem?_eq_some_iff.1 hj).1
    have hjc : j < cur.size := by rw [hc3]; omega
    simp only [Sort.putCells, Array.getElem?_mapIdx]
    rw [Array.getElem?_eq_getElem hjc, Option.map_some, if_pos ⟨Nat.zero_le _, by simp; omega⟩]
    have e : (sortL (xs.map (·.data.toList))).toArray[j - 0]! = l := by
      rw [Nat.sub_zero, getElem!_pos _ j (by simpa using hjl)]
      have := (List.getElem?_eq_some_iff.1 hj).2
      simpa using this
    rw [e]
    rfl
  have hpure : pureL ((sortB xs).map S) := okL_iff.2 fun y hy => by
    obtain ⟨x, _, rfl⟩ := List.mem_map.1 hy
    simp only [S, V.ok]
  refine ⟨.tuple #[], G, rfl, ⟨⟨#[], rfl, rfl, fun j u y hu => by simp at hu⟩, hpure, 0, ?_⟩, fun _ h => h, fun b' hb' => Nat.lt_of_lt_of_le (h2 b' hb') ?_, h3, fun b' hb' => ?_, fun b' hb' hn' => ?_, ?_, rfl, rfl, rfl⟩
  · show OwnOk T _ G 0 (.slice (some ⟨b, 0, none⟩) xs.length cap) 9 ((sortB xs).map S)
    have hl3 : ((sortB xs).map S).length = xs.length := by simp [sortB, hsl]
    refine .inr ⟨b, cap, _, by rw [hl3], hO, hbb, by rw [hl3]; exact hc1, hc2, by rw [hs1]; exact hcs, fun y hy => ?_, ?_⟩
    · obtain ⟨x, _, rfl⟩ := List.mem_map.1 hy
      rw [hs1]; rfl
    · rw [hl3, hs1, cells_strs]
      constructor
      · have e1 : (Sort.putCells encStr 0 (sortL (xs.map (·.data.toList))).toArray cur).toList.length = cap * 1 := by rw [Array.length_toList]; exact hcs
        rw [List.length_take, e1, hl3]; omega
      · intro v hv
        obtain ⟨j, hj⟩ := List.getElem?_of_mem hv
        have hjl : j < xs.length := by
          have := (List.getElem?_eq_some_iff.1 hj).1
          rw [List.length_take] at this; omega
        rw [List.getElem?_take, if_pos (by omega), Array.getElem?_toList] at hj
        rw [hget j _ (List.getElem?_eq_getElem (by rw [hsl]; exact hjl))] at hj
        cases hj; rfl
      · intro j v y hv hy
        have hjl : j < xs.length := by
          have := (List.getElem?_eq_some_iff.1 hv).1
          rw [List.length_take] at this; omega
        rw [List.getElem?_take, if_pos (by omega), Array.getElem?_toList, hget j _ (List.getElem?_eq_getElem (by rw [hsl]; exact hjl))] at hv
        cases hv
        have : y = S (ofBs (sortL (xs.map (·.data.toList)))[j]) := by
          simp only [sortB, List.map_map, List.getElem?_map] at hy
          rw [List.getElem?_eq_getElem (by rw [hsl]; exact hjl)] at hy
          simpa using hy.symm
        rw [this]
        exact .lit _ rfl
  · simp [Sort.grow, Sort.putRow, Sort.mapBlock, Sort.ahead]
  · cases hO' : G.O b' with
    | ext => exact absurd hO' hb'
    | fz => exact .inl ⟨rfl, rfl⟩
    | bx i => exact absurd hO' (h3 b' i)
    | ar j => exact .inr (.inr ⟨j, rfl⟩)
  · exact hne b' hb' (fun e => hn' 0 (by rw [e]; exact hO))
  · simp [Sort.grow, Sort.putRow, Sort.mapBlock, Sort.ahead]
end Go.Proofs.Cost58
namespace Go.Proofs.Cost58
open Go Go.Proofs Go.Ab
set_option maxRecDepth 100000

abbrev W64 (n : Int) : Int := IntKind.i64.wrap n
theorem w64_range (n : Int) : -9223372036854775808 ≤ W64 n ∧ W64 n ≤ 9223372036854775807 := by
  simp [IntKind.wrap, IntKind.signed, IntKind.bits]
  split <;> omega
/-- what has been put for a key -/
def findP (s : ByteArray) : List (ByteArray × Int) → Int
  | [] => 0
  | q :: r => if q.1 = s then q.2 else findP s r
def putsV (l : List (ByteArray × Int)) : List V := l.map fun q => .tup [S q.1, I q.2]
theorem assoc_find (s : ByteArray) : ∀ l : List (ByteArray × Int), (assocV s (putsV l)).getD (.lit (.int .i64 0)) = I (findP s l)
  | [] => rfl
  | q :: r => by
    show (if q.1 = s then some (I q.2) else assocV s (putsV r)).getD _ = I (if q.1 = s then q.2 else findP s r)
    split
    · rfl
    · exact assoc_find s r
def shipped (o : ByteArray) (p : Pc) : Prop := p.status = 3 ∧ p.order = o
structure Iv where
  names : List ByteArray
  c : List (ByteArray × Int)
  t : List (ByteArray × Int)
  sum : Int
open Classical in
noncomputable def stepI (r : Rt) (o : ByteArray) (x : Iv) (p : Pc) : Iv :=
  if shipped o p then ⟨if findP p.part x.c = 0 then x.names ++ [p.part] else x.names, (p.part, W64 (findP p.part x.c + 1)) :: x.c, (p.part, W64 (findP p.part x.t + valR r p.size p.bar)) :: x.t, W64 (x.sum + valR r p.size p.bar)⟩ else x
noncomputable def runI (r : Rt) (o : ByteArray) (D : List Pc) : Iv := D.foldl (stepI r o) ⟨[], [], [], 0⟩
theorem runI_snoc (r : Rt) (o : ByteArray) (D : List Pc) (p : Pc) : runI r o (D ++ [p]) = stepI r o (runI r o D) p := by simp [runI]
def xB : ByteArray := { data := #[32, 120, 32] }
def csB : ByteArray := { data := #[58, 32] }
def iline (x : Iv) (n : ByteArray) : ByteArray := n ++ xB ++ itoaB (findP n x.c) ++ csB ++ itoaB (findP n x.t)
noncomputable def linesI (r : Rt) (o : ByteArray) (D : List Pc) : List ByteArray := (sortB (runI r o D).names).map (iline (runI r o D))

/-- the numbers are in range -/
theorem find_range {l : List (ByteArray × Int)} (h : ∀ q ∈ l, -9223372036854775808 ≤ q.2 ∧ q.2 ≤ 9223372036854775807) (s : ByteArray) : -9223372036854775808 ≤ findP s l ∧ findP s l ≤ 9223372036854775807 := by
  induction l with
  | nil => simp [findP]
  | cons q r ih =>
    unfold findP
    split
    · exact h q (by simp)
    · exact ih (fun q hq => h q (by simp [hq]))
def rangeI (x : Iv) : Prop := (∀ q ∈ x.c, -9223372036854775808 ≤ q.2 ∧ q.2 ≤ 9223372036854775807) ∧ (∀ q ∈ x.t, -9223372036854775808 ≤ q.2 ∧ q.2 ≤ 9223372036854775807)
theorem run_range (r : Rt) (o : ByteArray) (D : List Pc) : rangeI (runI r o D) := by
  suffices h : ∀ (D : List Pc) (x : Iv), rangeI x → rangeI (D.foldl (stepI r o) x) from h D _ ⟨fun q hq => by simp at hq, fun q hq => by simp at hq⟩
  intro D
  induction D with
  | nil => intro x h; exact h
  | cons p D ih =>
    intro x h
    rw [List.foldl_cons]
    refine ih _ ?_
    unfold stepI
    split
    · refine ⟨fun q hq => ?_, fun q hq => ?_⟩
      · rcases List.mem_cons.1 hq with rfl | hq
        · exact w64_range _
        · exact h.1 q hq
      · rcases List.mem_cons.1 hq with rfl | hq
        · exact w64_range _
        · exact h.2 q hq
    · exact h
/-- names: at most as many as pieces, each of them some piece's, none twice -/
structure NamesOk (D : List Pc) (x : Iv) : Prop where
  len : x.names.length ≤ D.length
  clen : ∀ s, 0 ≤ findP s x.c ∧ findP s x.c ≤ D.length
  mem : ∀ s, s ∈ x.names ↔ findP s x.c ≠ 0
  nodup : x.names.Nodup
  part : ∀ s ∈ x.names, ∃ p ∈ D, p.part = s
theorem names_ok (r : Rt) (o : ByteArray) (D : List Pc) (hD : D.length ≤ 1000000) : NamesOk D (runI r o D) := by
  suffices h : ∀ (R D : List Pc) (x : Iv), (D ++ R).length ≤ 1000000 → NamesOk D x → NamesOk (D ++ R) (R.foldl (stepI r o) x) from by
    have := h D [] ⟨[], [], [], 0⟩ hD ⟨by simp, fun s => by simp [findP], fun s => by simp [findP], by simp, fun s hs => by simp at hs⟩
    simpa [runI] using this
  intro R
  induction R with
  | nil => intro D x _ h; simpa using h
  | cons p R ih =>
    intro D x hl h
    rw [List.foldl_cons, show D ++ p :: R = (D ++ [p]) ++ R by simp]
    refine ih (D ++ [p]) _ (by rw [List.append_assoc]; exact hl) ?_
    obtain ⟨h1, h2, h3, h4, h5⟩ := h
    have hl2 : D.length + 1 ≤ 1000000 := by simp at hl; omega
    have hp := h2 p.part
    have hw : W64 (findP p.part x.c + 1) = findP p.part x.c + 1 := IntWalk.i64_in _ (by omega)
    unfold stepI
    split
    · rw [hw]
      constructor
      · show (if findP p.part x.c = 0 then x.names ++ [p.part] else x.names).length ≤ _
        split <;> simp <;> omega
      · intro s
        show 0 ≤ (if p.part = s then findP p.part x.c + 1 else findP s x.c) ∧ (if p.part = s then findP p.part x.c + 1 else findP s x.c) ≤ _
        have := h2 s
        rw [List.length_append, List.length_singleton]
        split <;> omega
      · intro s
        show s ∈ (if findP p.part x.c = 0 then x.names ++ [p.part] else x.names) ↔ (if p.part = s then findP p.part x.c + 1 else findP s x.c) ≠ 0
        by_cases e : p.part = s
        · subst e
          rw [if_pos rfl]
          constructor
          · intro _; omega
          · intro _
            split
            · simp
            · rename_i hne; exact (h3 _).2 hne
        · rw [if_neg e]
          split
          · rw [List.mem_append, List.mem_singleton, h3 s]
            exact ⟨fun q => q.resolve_right (fun q => e q.symm), fun q => .inl q⟩
          · exact h3 s
      · show (if findP p.part x.c = 0 then x.names ++ [p.part] else x.names).Nodup
        split
        · rename_i h0
          refine List.nodup_append.2 ⟨h4, by simp, fun a ha b hb => ?_⟩
          rw [List.mem_singleton.1 hb]
          rintro rfl
          exact (h3 _).1 ha h0
        · exact h4
      · intro s hs
        have hs' : s ∈ (if findP p.part x.c = 0 then x.names ++ [p.part] else x.names) := hs
        split at hs'
        · rcases List.mem_append.1 hs' with q | q
          · obtain ⟨p', q1, q2⟩ := h5 s q
            exact ⟨p', by simp [q1], q2⟩
          · exact ⟨p, by simp, (List.mem_singleton.1 q).symm⟩
        · obtain ⟨p', q1, q2⟩ := h5 s hs'
          exact ⟨p', by simp [q1], q2⟩
    · exact ⟨by simp; omega, fun s => by have := h2 s; simp; omega, h3, h4, fun s hs => by obtain ⟨p', q1, q2⟩ := h5 s hs; exact ⟨p', by simp [q1], q2⟩⟩

/-- names and counts do not hang on the rates -/
theorem run_rates (r r' : Rt) (o : ByteArray) (D : List Pc) : (runI r o D).names = (runI r' o D).names ∧ (runI r o D).c = (runI r' o D).c := by
  suffices h : ∀ (D : List Pc) (x y : Iv), x.names = y.names → x.c = y.c → (D.foldl (stepI r o) x).names = (D.foldl (stepI r' o) y).names ∧ (D.foldl (stepI r o) x).c = (D.foldl (stepI r' o) y).c from h D _ _ rfl rfl
  intro D
  induction D with
  | nil => intro x y h1 h2; exact ⟨h1, h2⟩
  | cons p D ih =>
    intro x y h1 h2
    rw [List.foldl_cons, List.foldl_cons]
    refine ih _ _ ?_ ?_
    · unfold stepI
      split
      · simp only [h1, h2]
      · exact h1
    · unfold stepI
      split
      · simp only [h2]
      · exact h2
/-- at rates of zero nothing is worth anything -/
theorem run_zero (r : Rt) (hr : r.sheet = 0 ∧ r.bar = 0) (o : ByteArray) (D : List Pc) : (runI r o D).sum = 0 := by
  suffices h : ∀ (D : List Pc) (x : Iv), x.sum = 0 → (D.foldl (stepI r o) x).sum = 0 from h D _ rfl
  intro D
  induction D with
  | nil => intro x h; exact h
  | cons p D ih =>
    intro x h
    rw [List.foldl_cons]
    refine ih _ ?_
    unfold stepI
    split
    · have e : valR r p.size p.bar = 0 := by unfold valR; rw [hr.1, hr.2]; cases p.bar <;> simp <;> decide
      show W64 (x.sum + valR r p.size p.bar) = 0
      rw [h, e]; decide
    · exact h

/-! ### order -/
theorem sortL_perm (l : List (List UInt8)) : (sortL l).Perm l := List.mergeSort_perm _ _
theorem sortB_perm (l : List ByteArray) : (sortB l).Perm l := by
  have h := (sortL_perm (l.map (·.data.toList))).map ofBs
  rw [List.map_map] at h
  have e : l.map (ofBs ∘ fun x => x.data.toList) = l := by
    rw [List.map_congr_left (g := id)]
    · simp
    · intro x _; rfl
  rw [e] at h
  exact h
theorem sortL_sorted (l : List (List UInt8)) : (sortL l).Pairwise (· ≤ ·) := by
  have h := List.pairwise_mergeSort (le := fun x y : List UInt8 => decide (x ≤ y)) (fun a b c h1 h2 => by
    simp only [decide_eq_true_eq] at *
    exact List.le_trans h1 h2) (fun a b => by
    simp only [Bool.or_eq_true, decide_eq_true_eq]
    exact List.le_total a b) l
  exact h.imp (by simp)
theorem lt_line : ∀ (x y s t : List UInt8), x < y → (∀ c ∈ y, 32 < c) → x ++ 32 :: s < y ++ 32 :: t
  | [], [], s, t, h, _ => by exact absurd h (List.lt_irrefl [])
  | [], c :: y, s, t, _, hy => by
    show (32 :: s : List UInt8) < c :: (y ++ 32 :: t)
    exact List.Lex.rel (hy c (by simp))
  | b :: x, [], s, t, h, _ => by cases h
  | b :: x, c :: y, s, t, h, hy => by
    show b :: (x ++ 32 :: s) < c :: (y ++ 32 :: t)
    cases h with
    | rel h => exact List.Lex.rel h
    | cons h => exact List.Lex.cons (lt_line x y s t h (fun c hc => hy c (by simp [hc])))
theorem iline_eq (x : Iv) (n : ByteArray) : ∃ s, (iline x n).data.toList = n.data.toList ++ 32 :: s := by
  refine ⟨[120, 32] ++ (itoaB (findP n x.c)).data.toList ++ csB.data.toList ++ (itoaB (findP n x.t)).data.toList, ?_⟩
  simp [iline, xB, ByteArray.data_append]
theorem name_bytes {n : ByteArray} (h : isName n) : ∀ c ∈ n.data.toList, 32 < c := by
  intro c hc
  obtain ⟨i, hi⟩ := List.getElem?_of_mem hc
  have hil : i < n.size := by
    have := (List.getElem?_eq_some_iff.1 hi).1
    simpa using this
  have hb := h.2.2.2 i hil
  have e : byteAt n i = c.toNat := by
    unfold byteAt
    have : n[i]? = some c := by
      rw [getElem?_pos n i hil]
      have := (List.getElem?_eq_some_iff.1 hi).2
      rw [← this]
      rfl
    rw [this]; rfl
  rw [e] at hb
  rw [UInt8.lt_iff_toNat_lt]
  show 32 < c.toNat
  unfold isInner isLetter isDigit at hb
  omega
theorem lines_asc (r : Rt) (o : ByteArray) (D : List Pc) (hl : D.length ≤ 1000000) (hD : ∀ p ∈ D, isName p.part) : (linesI r o D).Pairwise fun a b => ltS a b = true := by
  have hok := names_ok r o D hl
  have hn : ∀ n ∈ sortB (runI r o D).names, isName n := fun n hn => by
    obtain ⟨p, hp, rfl⟩ := hok.part n ((sortB_perm _).mem_iff.1 hn)
    exact hD p hp
  have hnd : (sortB (runI r o D).names).Nodup := (sortB_perm _).nodup_iff.2 hok.nodup
  have hs : (sortB (runI r o D).names).Pairwise fun a b => a.data.toList ≤ b.data.toList := by
    unfold sortB
    rw [List.pairwise_map]
    exact sortL_sorted _
  unfold linesI
  rw [List.pairwise_map]
  refine List.Pairwise.imp_of_mem ?_ (List.pairwise_and_iff.2 ⟨hs, hnd⟩)
  intro a b ha hb ⟨h1, h2⟩
  obtain ⟨s, es⟩ := iline_eq (runI r o D) a
  obtain ⟨t, et⟩ := iline_eq (runI r o D) b
  unfold ltS
  rw [bytesLess_eq, decide_eq_true_eq]
  show (iline _ a).toList < (iline _ b).toList
  rw [ByteArray.toList_eq, ByteArray.toList_eq, es, et]
  refine lt_line _ _ _ _ ?_ (name_bytes (hn b hb))
  rcases List.le_iff_lt_or_eq.1 h1 with q | q
  · exact q
  · exact absurd (ByteArray.ext (Array.toList_inj.1 q)) h2
end Go.Proofs.Cost58
namespace Go.Proofs.Cost58
open Go Go.Proofs Go.Ab
set_option maxRecDepth 100000

theorem need_cat2 {a b : ByteArray} {K : Prop} (ha : a.size ≤ 10000) (hb : b.size ≤ 10000) (hk : K) : need (a.size + b.size ≤ 9223372036854775807) K := need_i (by omega) hk
theorem invoice_vc (r : Rt) (s : Ls) (o : ByteArray) (hr : rtOk r) (ho : isName o) (hs : fewP s) (hn : ∀ p ∈ s.pieces, p.part.size ≤ 1000) :
    fnVC T Tryd.prog Tryd.f26 [rtV r, lsV s, S o] (.tup [.sl ((linesI r o s.pieces).map S), I (runI r o s.pieces).sum, I 0]) := by
  obtain ⟨sk, pc, us, r0, r1, s0, s1⟩ := s
  obtain ⟨hs1, hs2⟩ := hs
  simp only at hs1 hs2 hn ⊢
  have h2 : (pc.map pcV).length = pc.length := by simp
  repeat' ((conv => whnf); first
    | (refine call_i (valid_spec r) false ?_ rfl ?_; focus ((repeat' (first | exact trivial | refine And.intro ?_ ?_ | with_reducible rfl | exact (fun h => by cases h) | exact rfl)); done))
    | (refine call_i (name_spec o) false ?_ rfl ?_; focus ((repeat' (first | exact trivial | refine And.intro ?_ ?_ | with_reducible rfl | exact (fun h => by cases h) | exact rfl)); done))
    | (exfalso; contradiction)
    | refine seq_go ?_
    | refine draw_i (by kernel_rfl) ?_
    | refine arith_half (by omega) ?_
    | refine arith_in (by omega) ?_
    | refine arith_u (by omega) ?_
    | refine need_i (p := (T.row _).eq = true) (by kernel_rfl) ?_
    | refine need_i (by omega) ?_
    | refine br_not ?_
    | refine br_dec (fun hd => ?_) (fun hd => ?_)
    | refine br_lt (fun hlt => ?_) (fun hlt => ?_)
    | refine br_le (fun hle => ?_) (fun hle => ?_)
    | refine br_eq (fun heq => ?_) (fun heq => ?_)
    | refine idx_map (by omega) (fun x hx => ?_)
    | refine live_i rfl (fun h => by cases h) ?_
    | refine branch_s (fun hbb => ?_) (fun hbb => ?_)
    | refine ret_i ?_
    | refine retB_i ?_)
  refine loop_2 (A := List Pc) (B := List Pc) (fun D R => mkSt [(2, S o), (3, .box 3 0), (6, .lit (.slice none 0 0)), (7, I (runI r o D).sum), (8, I 0), (9, .arr 25 0), (10, .arr 26 0), (11, .arr 52 (runI r o D).names.length), (28, .sl (pc.map pcV)), (29, I (pc.map pcV).length), (30, I D.length)]
      [(3, (rtV r).cells)] [(25, ⟨0, .dead, 128, .bot :: putsV (runI r o D).c⟩), (26, ⟨0, .dead, 128, .bot :: putsV (runI r o D).t⟩), (52, ⟨(runI r o D).names.length, .own, 9, (runI r o D).names.map S⟩)])
    (fun D R => pc = D ++ R) (fun D R => R.length) [] pc ?_ rfl (fun D R hp => ?_)
  · refine le_mk ?_ ?_ ?_ ?_
    all_goals repeat' (first | exact trivial | refine And.intro ?_ ?_ | with_reducible rfl | exact (fun h => by cases h) | exact Nat.le_refl _ | omega | exact rfl)
  have hlen : pc.length = D.length + R.length := by rw [show pc = D ++ R from hp]; simp
  have hok := names_ok r o D (by omega)
  cases R with
  | cons p R =>
    rw [List.length_cons] at hlen
    have hst := runI_snoc r o D p
    generalize runI r o D = x at *
    have hxl := hok.len
    repeat' ((conv => whnf); first
      | (exfalso; omega)
      | refine idx_mid (l := pc) (A := D) (x := p) (B := R) hp (by omega) ?_
      | refine br_eqS (fun heqS => ?_) (fun heqS => ?_)
      | (refine call_i (value_spec r p.size p.bar) false ?_ rfl ?_; focus ((repeat' (first | exact trivial | refine And.intro ?_ ?_ | with_reducible rfl | exact (fun h => by cases h) | exact rfl)); done))
      | refine mapget_i (assoc_find _ _) ?_
      | refine need_app rfl (.inl rfl) rfl (of_decide_eq_true rfl) (one_cells rfl) (by show (List.map S x.names).length + 1 ≤ _; rw [List.length_map]; omega) ?_
      | refine need_i rfl ?_
      | refine arith_in (by omega) ?_
      | refine arith_w ?_
      | refine seq_go ?_
      | refine draw_i (by kernel_rfl) ?_
      | refine arith_half (by omega) ?_
      | refine arith_in (by omega) ?_
      | refine arith_u (by omega) ?_
      | refine need_i (p := (T.row _).eq = true) (by kernel_rfl) ?_
      | refine need_i (by omega) ?_
      | refine br_not ?_
      | refine br_dec (fun hd => ?_) (fun hd => ?_)
      | refine br_lt (fun hlt => ?_) (fun hlt => ?_)
      | refine br_le (fun hle => ?_) (fun hle => ?_)
      | refine br_eq (fun heq => ?_) (fun heq => ?_)
      | refine idx_map (by omega) (fun x hx => ?_)
      | refine live_i rfl (fun h => by cases h) ?_
      | refine branch_s (fun hbb => ?_) (fun hbb => ?_)
      | refine ret_i ?_
      | refine retB_i ?_)
    all_goals (conv => whnf)
    all_goals refine ⟨(D ++ [p], R), ?_, by rw [show pc = D ++ p :: R from hp]; simp, by simp⟩
    all_goals simp only [hst]
    · rw [show stepI r o x p = ⟨x.names ++ [p.part], (p.part, W64 (findP p.part x.c + 1)) :: x.c, (p.part, W64 (findP p.part x.t + valR r p.size p.bar)) :: x.t, W64 (x.sum + valR r p.size p.bar)⟩ by unfold stepI; rw [if_pos ⟨by assumption, by assumption⟩, if_pos (by assumption)], show W64 (findP p.part x.c + 1) = findP p.part x.c + 1 from IntWalk.i64_in _ (by omega)]
      simp only [List.length_append, List.map_append]
      refine le_mk ?_ ?_ ?_ ?_
      all_goals repeat' (first | exact trivial | refine And.intro ?_ ?_ | with_reducible rfl | exact (fun h => by cases h) | exact Nat.le_refl _ | omega | exact rfl)
    · rw [show stepI r o x p = ⟨x.names, (p.part, W64 (findP p.part x.c + 1)) :: x.c, (p.part, W64 (findP p.part x.t + valR r p.size p.bar)) :: x.t, W64 (x.sum + valR r p.size p.bar)⟩ by unfold stepI; rw [if_pos ⟨by assumption, by assumption⟩, if_neg (by assumption)]]
      simp only [List.length_append]
      refine le_mk ?_ ?_ ?_ ?_
      all_goals repeat' (first | exact trivial | refine And.intro ?_ ?_ | with_reducible rfl | exact (fun h => by cases h) | exact Nat.le_refl _ | omega | exact rfl)
    · rw [show stepI r o x p = x by unfold stepI; rw [if_neg (fun h => by have := h.2; contradiction)]]
      simp only [List.length_append]
      refine le_mk ?_ ?_ ?_ ?_
      all_goals repeat' (first | exact trivial | refine And.intro ?_ ?_ | with_reducible rfl | exact (fun h => by cases h) | exact Nat.le_refl _ | omega | exact rfl)
    · rw [show stepI r o x p = x by unfold stepI; rw [if_neg (fun h => by have := h.1; contradiction)]]
      simp only [List.length_append]
      refine le_mk ?_ ?_ ?_ ?_
      all_goals repeat' (first | exact trivial | refine And.intro ?_ ?_ | with_reducible rfl | exact (fun h => by cases h) | exact Nat.le_refl _ | omega | exact rfl)
  | nil =>
    have e : pc = D := by rw [show pc = D ++ [] from hp]; simp
    subst e
    have hrg := run_range r o pc
    have hxl := hok.len
    have hperm := sortB_perm (runI r o pc).names
    have hsl := hperm.length_eq
    generalize hx : runI r o pc = x at *
    repeat' ((conv => whnf); first
      | (exfalso; omega)
      | (refine call_io_i (sort_spec x.names (by omega)) rfl rfl ?_ rfl rfl ?_; focus ((repeat' (first | exact trivial | refine And.intro ?_ ?_ | with_reducible rfl | exact (fun h => by cases h) | exact rfl)); done))
      | refine seq_go ?_
      | refine draw_i (by kernel_rfl) ?_
      | refine arith_half (by omega) ?_
      | refine arith_in (by omega) ?_
      | refine arith_u (by omega) ?_
      | refine need_i (p := (T.row _).eq = true) (by kernel_rfl) ?_
      | refine need_i (by omega) ?_
      | refine br_not ?_
      | refine br_dec (fun hd => ?_) (fun hd => ?_)
      | refine br_lt (fun hlt => ?_) (fun hlt => ?_)
      | refine br_le (fun hle => ?_) (fun hle => ?_)
      | refine br_eq (fun heq => ?_) (fun heq => ?_)
      | refine idx_map (by omega) (fun x hx => ?_)
      | refine live_i rfl (fun h => by cases h) ?_
      | refine branch_s (fun hbb => ?_) (fun hbb => ?_)
      | refine ret_i ?_
      | refine retB_i ?_)
    have hsn : ∀ n ∈ sortB x.names, n.size ≤ 1000 := fun n h => by
      obtain ⟨p, q1, q2⟩ := hok.part n (hperm.mem_iff.1 h)
      rw [← q2]; exact hn p q1
    have hL : linesI r o pc = (sortB x.names).map (iline x) := by unfold linesI; rw [hx]
    rw [hL]
    generalize sortB x.names = ns at *
    have hns : (ns.map S).length = ns.length := by simp
    refine loop_2 (A := List ByteArray) (B := List ByteArray) (fun D2 R2 => mkSt [(6, .arr 97 D2.length), (7, I x.sum), (8, I 0), (9, .arr 25 0), (10, .arr 26 0), (76, .arr 52 x.names.length), (77, I (ns.map S).length), (78, I D2.length)]
      [] [(25, ⟨0, .dead, 128, .bot :: putsV x.c⟩), (26, ⟨0, .dead, 128, .bot :: putsV x.t⟩), (52, ⟨x.names.length, .own, 9, ns.map S⟩), (97, ⟨D2.length, .own, 9, (D2.map (iline x)).map S⟩)])
      (fun D2 R2 => ns = D2 ++ R2) (fun D2 R2 => R2.length) [] ns ?_ rfl (fun D2 R2 hp2 => ?_)
    · refine le_mk ?_ ?_ ?_ ?_
      all_goals repeat' (first | exact trivial | refine And.intro ?_ ?_ | with_reducible rfl | exact (fun h => by cases h) | exact Nat.le_refl _ | omega | exact rfl)
    have hlen2 : ns.length = D2.length + R2.length := by rw [show ns = D2 ++ R2 from hp2]; simp
    cases R2 with
    | nil =>
      have e : ns = D2 := by rw [show ns = D2 ++ [] from hp2]; simp
      subst e
      repeat' ((conv => whnf); first
        | (exfalso; omega)
        | refine seq_go ?_
        | refine draw_i (by kernel_rfl) ?_
        | refine arith_half (by omega) ?_
        | refine arith_in (by omega) ?_
        | refine arith_u (by omega) ?_
        | refine need_i (p := (T.row _).eq = true) (by kernel_rfl) ?_
        | refine need_i (by omega) ?_
        | refine br_not ?_
        | refine br_dec (fun hd => ?_) (fun hd => ?_)
        | refine br_lt (fun hlt => ?_) (fun hlt => ?_)
        | refine br_le (fun hle => ?_) (fun hle => ?_)
        | refine br_eq (fun heq => ?_) (fun heq => ?_)
        | refine idx_map (by omega) (fun x hx => ?_)
        | refine live_i rfl (fun h => by cases h) ?_
        | refine branch_s (fun hbb => ?_) (fun hbb => ?_)
        | refine ret_i ?_
        | refine retB_i ?_)
      all_goals (conv => whnf)
      refine ⟨_, rfl, ?_⟩
      repeat' (first | exact trivial | refine And.intro ?_ ?_ | with_reducible rfl | exact (fun h => by cases h) | exact Nat.le_refl _ | omega | exact rfl)
    | cons n R2 =>
      rw [List.length_cons] at hlen2
      have hnn : n.size ≤ 1000 := hsn n (by rw [show ns = D2 ++ n :: R2 from hp2]; simp)
      obtain ⟨c1, c2⟩ := find_range hrg.1 n
      obtain ⟨t1, t2⟩ := find_range hrg.2 n
      have z1 := itoaB_size _ c1 c2
      have z2 := itoaB_size _ t1 t2
      have z3 : xB.size = 3 := rfl
      have z4 : csB.size = 2 := rfl
      have y1 : (n ++ xB).size ≤ 2000 := by rw [cat_size]; omega
      have y2 : (n ++ xB ++ itoaB (findP n x.c)).size ≤ 3000 := by rw [cat_size]; omega
      have y3 : (n ++ xB ++ itoaB (findP n x.c) ++ csB).size ≤ 4000 := by rw [cat_size]; omega
      repeat' ((conv => whnf); first
        | (exfalso; omega)
        | refine idx_mid (l := ns) (A := D2) (x := n) (B := R2) hp2 (by omega) ?_
        | refine mapget_i (assoc_find _ _) ?_
        | (refine call_i (itoa_spec (findP n x.c) c1 c2) false ?_ rfl ?_; focus ((repeat' (first | exact trivial | refine And.intro ?_ ?_ | with_reducible rfl | exact (fun h => by cases h) | exact rfl)); done))
        | (refine call_i (itoa_spec (findP n x.t) t1 t2) false ?_ rfl ?_; focus ((repeat' (first | exact trivial | refine And.intro ?_ ?_ | with_reducible rfl | exact (fun h => by cases h) | exact rfl)); done))
        | refine need_cat2 (a := n) (b := xB) (by omega) (by omega) ?_
        | refine need_cat2 (b := itoaB (findP n x.c)) (Nat.le_trans y1 (by decide)) (by omega) ?_
        | refine need_cat2 (b := csB) (Nat.le_trans y2 (by decide)) (by omega) ?_
        | refine need_cat2 (b := itoaB (findP n x.t)) (Nat.le_trans y3 (by decide)) (by omega) ?_
        | refine need_app rfl (.inl rfl) rfl (of_decide_eq_true rfl) (one_cells rfl) (by show (List.map S (List.map (iline x) D2)).length + 1 ≤ _; rw [List.length_map, List.length_map]; omega) ?_
        | refine need_i ⟨rfl, (fun h => by cases h), (by omega), (by show (D2.length : Int) < (ns.map S).length; omega)⟩ ?_
        | refine need_i rfl ?_
        | refine seq_go ?_
        | refine draw_i (by kernel_rfl) ?_
        | refine arith_half (by omega) ?_
        | refine arith_in (by omega) ?_
        | refine arith_u (by omega) ?_
        | refine need_i (p := (T.row _).eq = true) (by kernel_rfl) ?_
        | refine need_i (by omega) ?_
        | refine br_not ?_
        | refine br_dec (fun hd => ?_) (fun hd => ?_)
        | refine br_lt (fun hlt => ?_) (fun hlt => ?_)
        | refine br_le (fun hle => ?_) (fun hle => ?_)
        | refine br_eq (fun heq => ?_) (fun heq => ?_)
        | refine idx_map (by omega) (fun x hx => ?_)
        | refine live_i rfl (fun h => by cases h) ?_
        | refine branch_s (fun hbb => ?_) (fun hbb => ?_)
        | refine ret_i ?_
        | refine retB_i ?_)
      all_goals (conv => whnf)
      refine ⟨(D2 ++ [n], R2), ?_, by rw [show ns = D2 ++ n :: R2 from hp2]; simp, by simp⟩
      simp only [List.length_append, List.map_append]
      refine le_mk ?_ ?_ ?_ ?_
      all_goals repeat' (first | exact trivial | refine And.intro ?_ ?_ | with_reducible rfl | exact (fun h => by cases h) | exact Nat.le_refl _ | omega | exact rfl)
theorem invoice_spec (r : Rt) (s : Ls) (o : ByteArray) (hr : rtOk r) (ho : isName o) (hs : fewP s) (hn : ∀ p ∈ s.pieces, p.part.size ≤ 1000) :
    Sp 26 [rtV r, lsV s, S o] (.tup [.sl ((linesI r o s.pieces).map S), I (runI r o s.pieces).sum, I 0]) := sp_of Tryd.func26 (by kernel_rfl) (by kernel_rfl) (invoice_vc r s o hr ho hs hn)
end Go.Proofs.Cost58
