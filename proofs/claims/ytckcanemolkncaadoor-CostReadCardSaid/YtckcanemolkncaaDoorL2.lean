/-
  From contracts of the library to contracts of the executor.
  Contracts of the library: joining strings, numerals.
-/
import Derived.Test.YtckcanemolkncaaDoorS1
import Derived.Below
import Derived.Sort.Grow
import Derived.Test.YtckcanemolkncaaDoorL1
set_option linter.unusedVariables false
set_option linter.unusedSimpArgs false
namespace Go.Proofs.Cost58
open Go Go.Proofs Go.Ab Go.RowKit

theorem below_grow {w : World} {k : Nat} {os : Array Obj} : Below w.heap.size w (Sort.grow (w.drewN k) os) :=
  ⟨rfl, rfl, rfl, by show w.heap.size ≤ (w.heap ++ os).size; simp, fun b hb => by show (w.heap ++ os)[b]? = w.heap[b]?; rw [Array.getElem?_append_left hb]⟩
theorem below_drewN {w : World} {k : Nat} : Below w.heap.size w (w.drewN k) := ⟨rfl, rfl, rfl, Nat.le_refl _, fun _ _ => rfl⟩

/-- what the executor says of a call that lays new blocks and changes none -/
theorem spec_of_calls {f : FuncId} {ys : List V} {r : V} (hc : callable Tryd.prog f = true)
    (h : ∀ (w : World) (G : Gh) (cs : Array Value), cs.size = ys.length → (∀ b, G.O b ≠ .ext → b < w.heap.size) → (∀ (j : Nat) v y, cs[j]? = some v → ys[j]? = some y → Rb T w G j v y) → LayP w (fun b => G.O b = .fz) →
      Calls Tryd.prog f cs w fun e w' => Below w.heap.size w w' ∧ ∃ v, e = .returned v ∧ Rr T w' G v r) : Sp f ys r := by
  refine ⟨hc, fun w G cs h1 h2 h3 h4 h5 => (h w G cs h1 h2 h4 h5).mono ?_⟩
  rintro e w' ⟨hb, v, rfl, hr⟩
  refine ⟨v, G, rfl, hr, fun _ h => h, fun b hb' => Nat.lt_of_lt_of_le (h2 b hb') hb.size, h3, fun b hb' => ?_, fun b hb' _ => hb.block b hb', hb.size, hb.os, hb.tape, hb.output⟩
  cases hO : G.O b with
  | ext => exact absurd hO hb'
  | fz => exact .inl ⟨rfl, rfl⟩
  | bx i => exact absurd hO (h3 b i)
  | ar j => exact .inr (.inr ⟨j, rfl⟩)

theorem rb_lit {w : World} {G : Gh} {j : Nat} {v : Value} {u : Value} (h : Rb T w G j v (.lit u)) : v = u := h.2.lit_eq
theorem rr_lit {w : World} {G : Gh} {u : Value} (h : u.oneCell' = true) : Rr T w G u (.lit u) := ⟨by simp only [V.pure, V.ok], .lit u h⟩
/-- plain values alone -/
theorem spec_lits {f : FuncId} {us : List Value} {u : Value} (hc : callable Tryd.prog f = true) (hu : u.oneCell' = true)
    (h : ∀ (w : World) (F : Nat → Prop), LayP w F → Calls Tryd.prog f us.toArray w fun e w' => e = .returned u ∧ Below w.heap.size w w') : Sp f (us.map .lit) (.lit u) := by
  refine spec_of_calls hc fun w G cs h1 h2 h4 h5 => ?_
  have e : cs = us.toArray := by
    apply Array.ext
    · rw [h1]; simp
    · intro i hi hi'
      have hi2 : i < us.length := by simpa using hi'
      have := h4 i cs[i] (.lit us[i]) (by simp [hi]) (by simp [hi2])
      simpa using rb_lit this
  rw [e]
  refine (h w _ h5).mono ?_
  rintro e w' ⟨rfl, hb⟩
  exact ⟨hb, u, rfl, rr_lit hu⟩
end Go.Proofs.Cost58
namespace Go.Proofs.Cost58
open Go Go.Proofs Go.Ab Go.RowKit

def S (s : ByteArray) : V := .lit (.string s)
def itoaB (n : Int) : ByteArray := ⟨(Lib.itoa n).toArray⟩
def joinB (xs : List ByteArray) (sep : ByteArray) : ByteArray := ⟨(Lib.join (xs.map (·.data.toList)) sep.data.toList).toArray⟩

theorem itoa_spec (n : Int) (h0 : -9223372036854775808 ≤ n) (h1 : n ≤ 9223372036854775807) : Sp 43 [I n] (S (itoaB n)) := by
  refine spec_lits (us := [.int .i64 n]) (by kernel_rfl) rfl fun w F hl => ?_
  refine (Any.strconv_Itoa Tryd.laysM171 n h0 h1 w ?_).mono ?_
  · obtain ⟨t, z, hp⟩ := hl.p10.2
    refine Option.bind_eq_some_iff.2 ⟨3, by kernel_rfl, ?_⟩
    rw [hp]
  · rintro e w' ⟨rfl, k, os, rfl⟩
    exact ⟨rfl, below_grow⟩

theorem cells_strs {xs : List ByteArray} : (xs.map S).flatMap V.cells = xs.map S := by
  induction xs with
  | nil => rfl
  | cons x xs ih => rw [List.map_cons, List.flatMap_cons, ih]; rfl
theorem spot_none {w : World} {a : Addr} {v : Value} (h : w.cell? a = some v) : a = ⟨a.block, a.off, none⟩ ∧ a.block < w.heap.size := by
  obtain ⟨b, o, s⟩ := a
  unfold World.cell? at h
  simp only at h
  cases hb : w.heap[b]? with
  | none => rw [hb] at h; cases h
  | some ob =>
    have hlt : b < w.heap.size := by
      rcases Nat.lt_or_ge b w.heap.size with hlt | hge
      · exact hlt
      · rw [Array.getElem?_eq_none hge] at hb; cases hb
    rw [hb] at h
    cases ob <;> simp only at h <;> first | (cases h; done) | skip
    cases s with
    | none => exact ⟨rfl, hlt⟩
    | some k => simp at h
/-- what a slice of strings is in memory -/
theorem strs_inv {w : World} {G : Gh} {v : Value} {xs : List ByteArray} (h : Rv w G v (.sl (xs.map S))) : (xs = [] ∧ ∃ a c, v = .slice a 0 c) ∨ ∃ bk o c, v = .slice (some ⟨bk, o, none⟩) xs.length c ∧ xs.length ≤ c ∧ bk < w.heap.size ∧ ∀ (j : Nat) x, xs[j]? = some x → w.cell? ⟨bk, o + j, none⟩ = some (.string x) := by
  generalize hx : V.sl (xs.map S) = y at h
  cases h with
  | slN =>
    cases hx' : xs with
    | nil => exact .inl ⟨rfl, none, 0, rfl⟩
    | cons x r => rw [hx'] at hx; cases hx
  | slS a c l sz cc hc hm hf hz hcell hr =>
    cases hx
    have hl : (xs.map S).length = xs.length := by simp
    rw [hl] at hc ⊢
    cases hxs : xs with
    | nil => exact .inl ⟨rfl, some a, c, rfl⟩
    | cons x0 r =>
      right
      rw [← hxs]
      rw [cells_strs] at hcell hr
      have get : ∀ (j : Nat) x, xs[j]? = some x → w.cell? (a.add j) = some (.string x) := by
        intro j x hj
        have hy : (xs.map S)[j]? = some (S x) := by rw [List.getElem?_map, hj]; rfl
        have h1 := (hcell j _ hy).1
        have h2 : cc j = .string x := (hr j _ hy).lit_eq
        rw [h1, h2]
      have h0 := get 0 x0 (by rw [hxs]; rfl)
      have ha0 : a.add 0 = a := by simp [Addr.add]
      rw [ha0] at h0
      obtain ⟨e, hb⟩ := spot_none h0
      refine ⟨a.block, a.off, c, by rw [← e], hc, hb, fun j x hj => ?_⟩
      have := get j x hj
      have ea : a.add j = ⟨a.block, a.off + j, none⟩ := by
        unfold Addr.add
        split
        · rename_i hj0; subst hj0; rw [Nat.add_zero]; exact e
        · rfl
      rw [← ea]; exact this
  | _ => cases hx

theorem arr2 {cs : Array Value} (h : cs.size = 2) : ∃ a b, cs = #[a, b] := by
  obtain ⟨l⟩ := cs
  match l, h with
  | [a, b], _ => exact ⟨a, b, rfl⟩
theorem join_spec (xs : List ByteArray) (sep : ByteArray) (hlen : (Lib.join (xs.map (·.data.toList)) sep.data.toList).length ≤ 140737488355328) (hN : xs.length ≤ 140737488355328) : Sp 60 [.sl (xs.map S), S sep] (S (joinB xs sep)) := by
  refine spec_of_calls (by kernel_rfl) fun w G cs h1 h2 h4 h5 => ?_
  obtain ⟨v0, v1, rfl⟩ := arr2 h1
  have r0 := h4 0 v0 _ rfl rfl
  have r1 : v1 = .string sep := rb_lit (h4 1 v1 (S sep) rfl rfl)
  subst r1
  rcases strs_inv r0.2 with ⟨rfl, a, c, rfl⟩ | ⟨bk, o, c, rfl, hc, hb, hcell⟩
  · refine (Any.strings_Join_none Tryd.lays156 Tryd.Builder_Extra_156 a c sep w).mono ?_
    rintro e w' ⟨rfl, rfl⟩
    refine ⟨Below.refl _ _, _, rfl, ?_⟩
    have : joinB [] sep = ⟨#[]⟩ := rfl
    rw [this]
    exact rr_lit rfl
  · refine (Any.strings_Join Tryd.lays156 Tryd.Builder_Extra_156 bk o c xs sep w hcell hb hN hc hlen).mono ?_
    rintro e w' ⟨rfl, hb⟩
    exact ⟨hb, _, rfl, rr_lit rfl⟩
end Go.Proofs.Cost58
