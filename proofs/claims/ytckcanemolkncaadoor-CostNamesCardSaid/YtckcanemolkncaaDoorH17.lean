/-
  The functions of costs, walked: values, comparisons.
  From a tied row's entry to the contract of its function: the variables that the row lists, the arguments as they are read.
  From contracts of the library to contracts of the executor.
  The library's functions of this program lie as the shelf of contracts has them (written by the kit's lay-shelf and lay-plain; the contracts themselves left out).
  Contracts of the library: joining strings, numerals.
-/
import Derived.Test.YtckcanemolkncaaDoorG16
import Derived.Test.YtckcanemolkncaaDoorProg
import Derived.Lib.ItoaNum
import Derived.Test.YtckcanemolkncaaDoorCards
import Derived.Test.YtckcanemolkncaaDoorTie
import Derived.WalkKit
import Derived.ProofKit
import Derived.LaidMore
import Derived.OpenShut
import Derived.Stop.Joined
import Derived.SevenTiedAt
import Derived.Lib.LaidTab
import Derived.MakeChecks
import Derived.Below
import Derived.Sort.Grow
import Derived.Shelf.Strings.OnBuilder
import Derived.Shelf.Strconv.Itoa3
import Derived.Shelf.LaysM
set_option linter.unusedVariables false
set_option linter.unusedSimpArgs false
namespace Go.Proofs.Cost58
open Go Go.Proofs Go.Ab

/-- what is known of the library's variables -/
structure LayP (w : World) (F : Nat → Prop) : Prop where
  p10 : F 3 ∧ ∃ t z, w.heap[3]? = some (.cells (Lib.pow10Tab.map (Value.int .u64)).toArray t z)
theorem layP_mono {w w' : World} {F F' : Nat → Prop} (h : ∀ b, F b → F' b ∧ w'.heap[b]? = w.heap[b]?) (l : LayP w F) : LayP w' F' :=
  ⟨⟨(h _ l.p10.1).1, by rw [(h _ l.p10.1).2]; exact l.p10.2⟩⟩
noncomputable def T : Tab := tabOfR Tryd.prog 246 [0, 25, 43, 52, 57, 68, 80, 88, 92, 95, 114, 117, 142, 147, 150, 161, 182, 187, 195, 202, 214, 223, 225] LayP layP_mono [62, 64]
theorem tabOk : TabOk T Tryd.prog := tabOfR_ok (by kernel_rfl)
theorem mixed : Tryd.prog.follows .mixedOrders = true := by kernel_rfl
abbrev Sp (f : FuncId) (ys : List V) (r : V) : Prop := Go.Ab.Spec T Tryd.prog f ys r
theorem sp_of {f : FuncId} {fn : Func} {ys : List V} {r : V} (hf : Tryd.prog.funcs[f]? = some fn) (hc : callable Tryd.prog f = true) (hn : Nat.ble ys.length fn.ntmps = true) (h : fnVC T Tryd.prog fn ys r) : Sp f ys r :=
  fn_sound tabOk mixed hf hc (Nat.le_of_ble_eq_true hn) h
abbrev SpIO (f : FuncId) (ys : List V) (r : V) (e : TypeId) (l : List V) : Prop := SpecIO T Tryd.prog f ys r 0 e l
theorem io_of {f : FuncId} {fn : Func} {y : V} {ys : List V} {r : V} {e : TypeId} {l l' : List V} (hy : y = .own e l) (hf : Tryd.prog.funcs[f]? = some fn) (hc : callable Tryd.prog f = true) (hn : Nat.ble (y :: ys).length fn.ntmps = true) (h : fnIO T Tryd.prog fn (y :: ys) r 0 e l') : SpIO f (y :: ys) r e l' :=
  fn_io_sound tabOk mixed hf hc (Nat.le_of_ble_eq_true hn) (by decide) (by rw [hy]; rfl) h
abbrev SpB (f : FuncId) (ys : List V) (bs : List (List V)) (r : V) (bs' : List (List V)) : Prop := SpecB T Tryd.prog f ys bs r bs'
theorem b_of {f : FuncId} {fn : Func} {ys : List V} {bs : List (List V)} {r : V} {bs' : List (List V)} (hf : Tryd.prog.funcs[f]? = some fn) (hc : callable Tryd.prog f = true) (hn : (Nat.ble ys.length fn.ntmps && Nat.blt fn.ntmps 100000) = true) (hb : (Nat.ble bs.length 8 && bs.all fun b => Nat.blt b.length 100000) = true) (hl : bs'.map List.length = bs.map List.length) (h : fnVCB T Tryd.prog fn ys bs r bs') : SpB f ys bs r bs' := by
  rw [Bool.and_eq_true] at hn hb
  exact fnB_sound tabOk mixed hf hc (Nat.le_of_ble_eq_true hn.1) (blt hn.2) (Nat.le_of_ble_eq_true hb.1) (fun b hb' => blt (List.all_eq_true.1 hb.2 b hb')) hl h

def I (n : Int) : V := .lit (.int .i64 n)
@[irreducible] noncomputable def decB (p : Prop) : Bool := @decide p (Classical.propDecidable p)
theorem decB_t {p : Prop} : decB p = true ↔ p := by unfold decB; simp
theorem decB_f {p : Prop} : decB p = false ↔ ¬ p := by unfold decB; simp
theorem br_dec {p A B : Prop} (h1 : p → A) (h2 : ¬ p → B) : branch (decB p) A B := branch_s (fun h => h1 (decB_t.1 h)) (fun h => h2 (decB_f.1 h))
theorem dec_ret {p : Prop} (h : p) : true = decB p := (decB_t.2 h).symm
theorem dec_retf {p : Prop} (h : ¬ p) : false = decB p := (decB_f.2 h).symm
theorem lt_dec {a b : Int} {p : Prop} (h : a < b ↔ p) : ltB a b = decB p := Bool.eq_iff_iff.2 (by rw [ltB_t, decB_t]; exact h)
theorem le_dec {a b : Int} {p : Prop} (h : a ≤ b ↔ p) : leB a b = decB p := Bool.eq_iff_iff.2 (by rw [leB_t, decB_t]; exact h)
theorem eq_dec {a b : Int} {p : Prop} (h : a = b ↔ p) : eqB a b = decB p := Bool.eq_iff_iff.2 (by rw [eqB_t, decB_t]; exact h)
theorem not_dec {b : Bool} {p : Prop} (h : b = false ↔ p) : (!b) = decB p := Bool.eq_iff_iff.2 (by rw [decB_t, ← h]; cases b <;> simp)
theorem dec_dec {p q : Prop} (h : p ↔ q) : decB p = decB q := Bool.eq_iff_iff.2 (by rw [decB_t, decB_t]; exact h)

theorem arith_u {n : Int} {K : Int → Prop} (h : 0 ≤ n ∧ n ≤ 18446744073709551615) (hk : K n) : arith .u64 n K := by
  refine ⟨?_⟩
  rw [show IntKind.wrap .u64 n = n from by simp [IntKind.wrap, IntKind.signed, IntKind.bits]; omega]; exact hk
theorem arith_half {n : Int} {K : Int → Prop} (h : 0 ≤ n ∧ n ≤ 18446744073709551615) (hk : K (n / 2)) : arith .i64 (shrI .u64 n 1) K := by
  have e : shrI .u64 n 1 = n / 2 := by unfold shrI; rw [Int.fdiv_eq_ediv_of_nonneg _ (by decide)]; rfl
  rw [e]
  exact arith_in (by omega) hk
theorem loop_2 {T : Tab} {σ : St} {x : CodeK} {Q : Exit → St → Prop} {A B : Type} (st : A → B → St) (inv : A → B → Prop) (m : A → B → Nat) (a0 : A) (b0 : B) (h0 : Le T σ (st a0 b0)) (h1 : inv a0 b0) (h : ∀ a b, inv a b → x (st a b) fun e σ' => match e with
    | .normal => ∃ p' : A × B, Le T σ' (st p'.1 p'.2) ∧ inv p'.1 p'.2 ∧ m p'.1 p'.2 < m a b
    | e => Q e σ') : LoopVC T x σ Q :=
  loop_i (A := A × B) (fun p => st p.1 p.2) (fun p => inv p.1 p.2) (fun p => m p.1 p.2) (a0, b0) h0 h1 (fun p hp => h p.1 p.2 hp)
theorem loop_4 {T : Tab} {σ : St} {x : CodeK} {Q : Exit → St → Prop} {A B C D : Type} (st : A → B → C → D → St) (inv : A → B → C → D → Prop) (m : A → B → C → D → Nat) (a0 : A) (b0 : B) (c0 : C) (d0 : D) (h0 : Le T σ (st a0 b0 c0 d0)) (h1 : inv a0 b0 c0 d0) (h : ∀ a b c d, inv a b c d → x (st a b c d) fun e σ' => match e with
    | .normal => ∃ p' : A × B × C × D, Le T σ' (st p'.1 p'.2.1 p'.2.2.1 p'.2.2.2) ∧ inv p'.1 p'.2.1 p'.2.2.1 p'.2.2.2 ∧ m p'.1 p'.2.1 p'.2.2.1 p'.2.2.2 < m a b c d
    | e => Q e σ') : LoopVC T x σ Q :=
  loop_i (A := A × B × C × D) (fun p => st p.1 p.2.1 p.2.2.1 p.2.2.2) (fun p => inv p.1 p.2.1 p.2.2.1 p.2.2.2) (fun p => m p.1 p.2.1 p.2.2.1 p.2.2.2) (a0, b0, c0, d0) h0 h1 (fun p hp => h p.1 p.2.1 p.2.2.1 p.2.2.2 hp)
theorem loop_3 {T : Tab} {σ : St} {x : CodeK} {Q : Exit → St → Prop} {A B C : Type} (st : A → B → C → St) (inv : A → B → C → Prop) (m : A → B → C → Nat) (a0 : A) (b0 : B) (c0 : C) (h0 : Le T σ (st a0 b0 c0)) (h1 : inv a0 b0 c0) (h : ∀ a b c, inv a b c → x (st a b c) fun e σ' => match e with
    | .normal => ∃ p' : A × B × C, Le T σ' (st p'.1 p'.2.1 p'.2.2) ∧ inv p'.1 p'.2.1 p'.2.2 ∧ m p'.1 p'.2.1 p'.2.2 < m a b c
    | e => Q e σ') : LoopVC T x σ Q :=
  loop_i (A := A × B × C) (fun p => st p.1 p.2.1 p.2.2) (fun p => inv p.1 p.2.1 p.2.2) (fun p => m p.1 p.2.1 p.2.2) (a0, b0, c0) h0 h1 (fun p hp => h p.1 p.2.1 p.2.2 hp)

set_option maxRecDepth 100000

theorem nan_vc (n : Int) : fnVC T Tryd.prog Tryd.f70 [I n] (.lit (.bool false)) := by
  repeat' ((conv => whnf); first
    | refine seq_go ?_
    | refine draw_i (by kernel_rfl) ?_
    | refine arith_half (by omega) ?_
    | refine arith_in (by omega) ?_
    | refine arith_u (by omega) ?_
    | refine need_i (p := (T.row _).eq = true) (by kernel_rfl) ?_
    | refine need_i (by omega) ?_
    | refine br_not ?_
    | refine br_dec (fun hd => ?_) (fun hd => ?_)
    | refine br_lt (fun hlt => ?_) (fun hlt => ?_)
    | refine br_le (fun hle => ?_) (fun hle => ?_)
    | refine br_eq (fun heq => ?_) (fun heq => ?_)
    | refine idx_map (by omega) (fun x hx => ?_)
    | refine live_i rfl (fun h => by cases h) ?_
    | refine branch_s (fun hbb => ?_) (fun hbb => ?_)
    | refine ret_i ?_
    | refine retB_i ?_)
  refine ret_bool ?_
  have : eqB n n = true := eqB_t.2 rfl
  rw [this]; rfl
theorem nan_spec (n : Int) : Sp 70 [I n] (.lit (.bool false)) := sp_of Tryd.func70 (by kernel_rfl) (by kernel_rfl) (nan_vc n)

def cmpI (a b : Int) : Int := if a < b then -1 else if b < a then 1 else 0
theorem cmp_vc (a b : Int) : fnVC T Tryd.prog Tryd.f35 [I a, I b] (I (cmpI a b)) := by
  unfold cmpI
  repeat' ((conv => whnf); first
    | (refine call_i (nan_spec a) false ?_ rfl ?_; focus ((repeat' (first | exact trivial | refine And.intro ?_ ?_ | with_reducible rfl | exact (fun h => by cases h) | exact rfl)); done))
    | (refine call_i (nan_spec b) false ?_ rfl ?_; focus ((repeat' (first | exact trivial | refine And.intro ?_ ?_ | with_reducible rfl | exact (fun h => by cases h) | exact rfl)); done))
    | refine seq_go ?_
    | refine draw_i (by kernel_rfl) ?_
    | refine arith_half (by omega) ?_
    | refine arith_in (by omega) ?_
    | refine arith_u (by omega) ?_
    | refine need_i (p := (T.row _).eq = true) (by kernel_rfl) ?_
    | refine need_i (by omega) ?_
    | refine br_not ?_
    | refine br_dec (fun hd => ?_) (fun hd => ?_)
    | refine br_lt (fun hlt => ?_) (fun hlt => ?_)
    | refine br_le (fun hle => ?_) (fun hle => ?_)
    | refine br_eq (fun heq => ?_) (fun heq => ?_)
    | refine idx_map (by omega) (fun x hx => ?_)
    | refine live_i rfl (fun h => by cases h) ?_
    | refine branch_s (fun hbb => ?_) (fun hbb => ?_)
    | refine ret_i ?_
    | refine retB_i ?_)
  all_goals
    conv => whnf
    refine ret_int ?_
  · rw [if_pos hlt]
  · rw [if_neg (by omega), if_pos hlt]
  · rw [if_neg (by omega), if_neg (by omega)]
theorem cmp_spec (a b : Int) : Sp 35 [I a, I b] (I (cmpI a b)) := sp_of Tryd.func35 (by kernel_rfl) (by kernel_rfl) (cmp_vc a b)

theorem mulB {a b A B : Int} (ha : 0 ≤ a ∧ a ≤ A) (hb : 0 ≤ b ∧ b ≤ B) : 0 ≤ a * b ∧ a * b ≤ A * B :=
  ⟨Int.mul_nonneg ha.1 hb.1, Int.mul_le_mul ha.2 hb.2 hb.1 (by omega)⟩
theorem arith_mul {a b A B : Int} {K : Int → Prop} (ha : 0 ≤ a ∧ a ≤ A) (hb : 0 ≤ b ∧ b ≤ B) (h : A * B ≤ 9223372036854775807) (hk : K (a * b)) : arith .i64 (a * b) K :=
  arith_in (by have := mulB ha hb; omega) hk
/-- the weights' remainders -/
def restF (am s : Int) (ws : List Int) (i : Int) : Int := (am * ws.getD i.toNat 0).tmod s
def restV (am s : Int) (ws : List Int) : V := .fn 32 [.fp [I am], .fp [.sl (ws.map I)], .fp [I s]]
theorem rest_vc (am s : Int) (ws : List Int) (i : Int) (h0 : 0 ≤ i) (h1 : i < ws.length) (hs : 0 < s) (ha : 0 ≤ am ∧ am ≤ 1000000000) (hw : ∀ w ∈ ws, 0 ≤ w ∧ w ≤ 1000000) :
    fnVC T Tryd.prog Tryd.f32 [I i, .fp [I am], .fp [.sl (ws.map I)], .fp [I s]] (I (restF am s ws i)) := by
  have hl : (ws.map I).length = ws.length := by simp
  repeat' ((conv => whnf); first
    | refine arith_mul (A := 1000000000) (B := 1000000) ha (hw _ (List.mem_of_getElem? hx)) (by decide) ?_
    | refine seq_go ?_
    | refine draw_i (by kernel_rfl) ?_
    | refine arith_half (by omega) ?_
    | refine arith_in (by omega) ?_
    | refine arith_u (by omega) ?_
    | refine need_i (p := (T.row _).eq = true) (by kernel_rfl) ?_
    | refine need_i (by omega) ?_
    | refine br_not ?_
    | refine br_dec (fun hd => ?_) (fun hd => ?_)
    | refine br_lt (fun hlt => ?_) (fun hlt => ?_)
    | refine br_le (fun hle => ?_) (fun hle => ?_)
    | refine br_eq (fun heq => ?_) (fun heq => ?_)
    | refine idx_map (by omega) (fun x hx => ?_)
    | refine live_i rfl (fun h => by cases h) ?_
    | refine branch_s (fun hbb => ?_) (fun hbb => ?_)
    | refine ret_i ?_
    | refine retB_i ?_)
  conv => whnf
  refine ret_int ?_
  unfold restF
  rw [List.getD_eq_getElem?_getD, hx]; rfl
theorem rest_spec (am s : Int) (ws : List Int) (i : Int) (h0 : 0 ≤ i) (h1 : i < ws.length) (hs : 0 < s) (ha : 0 ≤ am ∧ am ≤ 1000000000) (hw : ∀ w ∈ ws, 0 ≤ w ∧ w ≤ 1000000) :
    Sp 32 [I i, .fp [I am], .fp [.sl (ws.map I)], .fp [I s]] (I (restF am s ws i)) := sp_of Tryd.func32 (by kernel_rfl) (by kernel_rfl) (rest_vc am s ws i h0 h1 hs ha hw)

def ordV (am s : Int) (ws : List Int) : V := .fn 34 [.fp [restV am s ws]]
def ordF (am s : Int) (ws : List Int) (i j : Int) : Int := cmpI (restF am s ws j) (restF am s ws i)
theorem ord_vc (am s : Int) (ws : List Int) (i j : Int) (hi : 0 ≤ i ∧ i < ws.length) (hj : 0 ≤ j ∧ j < ws.length) (hs : 0 < s) (ha : 0 ≤ am ∧ am ≤ 1000000000) (hw : ∀ w ∈ ws, 0 ≤ w ∧ w ≤ 1000000) :
    fnVC T Tryd.prog Tryd.f34 [I i, I j, .fp [restV am s ws]] (I (ordF am s ws i j)) := by
  repeat' ((conv => whnf); first
    | (refine call_i (rest_spec am s ws j hj.1 hj.2 hs ha hw) false ?_ rfl ?_; focus ((repeat' (first | exact trivial | refine And.intro ?_ ?_ | with_reducible rfl | exact (fun h => by cases h) | exact rfl)); done))
    | (refine call_i (rest_spec am s ws i hi.1 hi.2 hs ha hw) false ?_ rfl ?_; focus ((repeat' (first | exact trivial | refine And.intro ?_ ?_ | with_reducible rfl | exact (fun h => by cases h) | exact rfl)); done))
    | (refine call_i (cmp_spec (restF am s ws j) (restF am s ws i)) false ?_ rfl ?_; focus ((repeat' (first | exact trivial | refine And.intro ?_ ?_ | with_reducible rfl | exact (fun h => by cases h) | exact rfl)); done))
    | refine seq_go ?_
    | refine draw_i (by kernel_rfl) ?_
    | refine arith_half (by omega) ?_
    | refine arith_in (by omega) ?_
    | refine arith_u (by omega) ?_
    | refine need_i (p := (T.row _).eq = true) (by kernel_rfl) ?_
    | refine need_i (by omega) ?_
    | refine br_not ?_
    | refine br_dec (fun hd => ?_) (fun hd => ?_)
    | refine br_lt (fun hlt => ?_) (fun hlt => ?_)
    | refine br_le (fun hle => ?_) (fun hle => ?_)
    | refine br_eq (fun heq => ?_) (fun heq => ?_)
    | refine idx_map (by omega) (fun x hx => ?_)
    | refine live_i rfl (fun h => by cases h) ?_
    | refine branch_s (fun hbb => ?_) (fun hbb => ?_)
    | refine ret_i ?_
    | refine retB_i ?_)
  conv => whnf
  exact ret_int rfl
theorem ord_spec (am s : Int) (ws : List Int) (i j : Int) (hi : 0 ≤ i ∧ i < ws.length) (hj : 0 ≤ j ∧ j < ws.length) (hs : 0 < s) (ha : 0 ≤ am ∧ am ≤ 1000000000) (hw : ∀ w ∈ ws, 0 ≤ w ∧ w ≤ 1000000) :
    Sp 34 [I i, I j, .fp [restV am s ws]] (I (ordF am s ws i j)) := sp_of Tryd.func34 (by kernel_rfl) (by kernel_rfl) (ord_vc am s ws i j hi hj hs ha hw)
end Go.Proofs.Cost58
namespace Go.Proofs.YtckcanemolkncaaDoor
open Go.ChangeShapes Go.WideShapes Go.ChangeAt Go.RowKit Go.Ab Go.Proofs.Cost58

theorem own : ownKnob Tryd.prog.godebug = none := by kernel_rfl
theorem laidOut : laidOutB Tryd.prog = true := by kernel_rfl

theorem var_heap {w : World} {name : String} {g : Nat} {cs : Array Value} (hg : Tryd.prog.globalNamed name = some g) (h : w.var? Tryd.prog name = some cs) : ∃ t z, w.heap[g]? = some (.cells cs t z) := by
  unfold World.var? at h
  rw [hg] at h
  simp only [Option.bind_some] at h
  split at h
  · rename_i c t z hb
    cases h
    exact ⟨t, z, hb⟩
  · cases h
/-- the table of powers, out of the row's list -/
theorem lay_of {W : World} (h : laidMetH Tryd.prog Rows.costShareRow.laid W) : T.lay W (fun b => b < W.heap.size) := by
  rw [MakeChecks.laidMetH_plain _ _ _ (by kernel_rfl)] at h
  obtain ⟨ps, ⟨g0, t0, cs0, f0, p0, q0, hg0, ht0, hv0, hd0, ⟨g1, t1, cs1, f1, p1, q1, hg1, ht1, hv1, hd1, ⟨g2, t2, cs2, f2, p2, q2, hg2, ht2, hv2, hd2, _⟩, _⟩, _⟩, _, _⟩ := h
  obtain ⟨t, z, hh⟩ := var_heap hg2 hv2
  have e2 : g2 = 3 := Option.some.inj (hg2.symm.trans (by kernel_rfl))
  subst e2
  have et : t2 = 220 := Option.some.inj (ht2.symm.trans (by kernel_rfl))
  subst et
  have hc := Lib.cells_of_tab (k := .u64) (zs := Lib.pow10Tab) Tryd.underlying220 Tryd.underlying157 (by kernel_rfl) (by kernel_rfl) (hd2.trans (congrArg some (congrArg (·, p2) (by kernel_rfl))))
  have hlt : 3 < W.heap.size := by
    rcases Nat.lt_or_ge 3 W.heap.size with h | h
    · exact h
    · rw [Array.getElem?_eq_none h] at hh; cases hh
  refine ⟨hlt, t, z, ?_⟩
  rw [hh, ← hc]
end Go.Proofs.YtckcanemolkncaaDoor
namespace Go.Proofs.Cost58
open Go Go.Proofs Go.Ab Go.RowKit

theorem below_grow {w : World} {k : Nat} {os : Array Obj} : Below w.heap.size w (Sort.grow (w.drewN k) os) :=
  ⟨rfl, rfl, rfl, by show w.heap.size ≤ (w.heap ++ os).size; simp, fun b hb => by show (w.heap ++ os)[b]? = w.heap[b]?; rw [Array.getElem?_append_left hb]⟩
theorem below_drewN {w : World} {k : Nat} : Below w.heap.size w (w.drewN k) := ⟨rfl, rfl, rfl, Nat.le_refl _, fun _ _ => rfl⟩

/-- what the executor says of a call that lays new blocks and changes none -/
theorem spec_of_calls {f : FuncId} {ys : List V} {r : V} (hc : callable Tryd.prog f = true)
    (h : ∀ (w : World) (G : Gh) (cs : Array Value), cs.size = ys.length → (∀ b, G.O b ≠ .ext → b < w.heap.size) → (∀ (j : Nat) v y, cs[j]? = some v → ys[j]? = some y → Rb T w G j v y) → LayP w (fun b => G.O b = .fz) →
      Calls Tryd.prog f cs w fun e w' => Below w.heap.size w w' ∧ ∃ v, e = .returned v ∧ Rr T w' G v r) : Sp f ys r := by
  refine ⟨hc, fun w G cs h1 h2 h3 h4 h5 => (h w G cs h1 h2 h4 h5).mono ?_⟩
  rintro e w' ⟨hb, v, rfl, hr⟩
  refine ⟨v, G, rfl, hr, fun _ h => h, fun b hb' => Nat.lt_of_lt_of_le (h2 b hb') hb.size, h3, fun b hb' => ?_, fun b hb' _ => hb.block b hb', hb.size, hb.os, hb.tape, hb.output⟩
  cases hO : G.O b with
  | ext => exact absurd hO hb'
  | fz => exact .inl ⟨rfl, rfl⟩
  | bx i => exact absurd hO (h3 b i)
  | ar j => exact .inr (.inr ⟨j, rfl⟩)

theorem rb_lit {w : World} {G : Gh} {j : Nat} {v : Value} {u : Value} (h : Rb T w G j v (.lit u)) : v = u := h.2.lit_eq
theorem rr_lit {w : World} {G : Gh} {u : Value} (h : u.oneCell' = true) : Rr T w G u (.lit u) := ⟨by simp only [V.pure, V.ok], .lit u h⟩
/-- plain values alone -/
theorem spec_lits {f : FuncId} {us : List Value} {u : Value} (hc : callable Tryd.prog f = true) (hu : u.oneCell' = true)
    (h : ∀ (w : World) (F : Nat → Prop), LayP w F → Calls Tryd.prog f us.toArray w fun e w' => e = .returned u ∧ Below w.heap.size w w') : Sp f (us.map .lit) (.lit u) := by
  refine spec_of_calls hc fun w G cs h1 h2 h4 h5 => ?_
  have e : cs = us.toArray := by
    apply Array.ext
    · rw [h1]; simp
    · intro i hi hi'
      have hi2 : i < us.length := by simpa using hi'
      have := h4 i cs[i] (.lit us[i]) (by simp [hi]) (by simp [hi2])
      simpa using rb_lit this
  rw [e]
  refine (h w _ h5).mono ?_
  rintro e w' ⟨rfl, hb⟩
  exact ⟨hb, u, rfl, rr_lit hu⟩
end Go.Proofs.Cost58
namespace Go.Proofs
open Go.Shelf
def Tryd.lays156_ren : Go.Shelf.Ren := ⟨fun | 156 => 60 | 165 => 91 | 166 => 92 | 169 => 93 | 240 => 120 | 241 => 121 | 276 => 141 | 277 => 142 | n => n, fun | 31 => 42 | 9 => 9 | 3 => 3 | 4 => 4 | 0 => 0 | 20 => 20 | 72 => 171 | 76 => 147 | 70 => 169 | 37 => 158 | 75 => 146 | 127 => 192 | 164 => 210 | 5 => 5 | 80 => 173 | n => n, fun | n => n⟩
theorem Tryd.lays156 : Go.Proofs.Lays.n156 Tryd.prog Tryd.lays156_ren := {
  mixed := by kernel_rfl
  f156 := Tryd.func60.trans (congrArg some (by kernel_rfl))
  f165 := Tryd.func91.trans (congrArg some (by kernel_rfl))
  f166 := Tryd.func92.trans (congrArg some (by kernel_rfl))
  f169 := Tryd.func93.trans (congrArg some (by kernel_rfl))
  f240 := Tryd.func120.trans (congrArg some (by kernel_rfl))
  f241 := Tryd.func121.trans (congrArg some (by kernel_rfl))
  f276 := Tryd.func141.trans (congrArg some (by kernel_rfl))
  f277 := Tryd.func142.trans (congrArg some (by kernel_rfl))
  t0 := Tryd.underlying0
  a0 := Tryd.isAgg0
  z0 := Tryd.sizeOf0
  v0 := Tryd.zeroValue0
  t3 := Tryd.underlying3
  a3 := Tryd.isAgg3
  z3 := Tryd.sizeOf3
  v3 := Tryd.zeroValue3
  t4 := Tryd.underlying4
  a4 := Tryd.isAgg4
  z4 := Tryd.sizeOf4
  v4 := Tryd.zeroValue4
  t9 := Tryd.underlying9
  a9 := Tryd.isAgg9
  z9 := Tryd.sizeOf9
  v9 := Tryd.zeroValue9
  t20 := Tryd.underlying20
  a20 := Tryd.isAgg20
  z20 := Tryd.sizeOf20
  v20 := Tryd.zeroValue20
  t31 := Tryd.underlying42
  a31 := Tryd.isAgg42
  z31 := Tryd.sizeOf42
  v31 := Tryd.zeroValue42
  t37 := Tryd.underlying158
  a37 := Tryd.isAgg158
  z37 := Tryd.sizeOf158
  v37 := Tryd.zeroValue158
  t70 := Tryd.underlying169
  a70 := Tryd.isAgg169
  z70 := Tryd.sizeOf169
  v70 := Tryd.zeroValue169
  t72 := Tryd.underlying171
  a72 := Tryd.isAgg171
  z72 := Tryd.sizeOf171
  v72 := Tryd.zeroValue171
  t75 := Tryd.underlying146
  a75 := Tryd.isAgg146
  z75 := Tryd.sizeOf146
  v75 := Tryd.zeroValue146
  t76 := Tryd.underlying147
  a76 := Tryd.isAgg147
  z76 := Tryd.sizeOf147
  v76 := Tryd.zeroValue147
  t127 := Tryd.underlying192
  a127 := Tryd.isAgg192
  z127 := Tryd.sizeOf192
  v127 := Tryd.zeroValue192
  t164 := Tryd.underlying210
  a164 := Tryd.isAgg210
  z164 := Tryd.sizeOf210
  v164 := Tryd.zeroValue210 }
theorem Tryd.Builder_Extra_156 : Builder.Extra Tryd.prog Tryd.lays156_ren := {
  sizeBuilder := by kernel_rfl
  liesBuilder := by kernel_rfl
  t5 := Tryd.underlying5
  a5 := Tryd.isAgg5
  z5 := Tryd.sizeOf5
  v5 := Tryd.zeroValue5
  infoByte := by kernel_rfl
  cellsByte := by kernel_rfl
  sizeByte := by kernel_rfl
  neB5 := by decide }
def Tryd.laysM171_ren : Go.Shelf.Ren := ⟨fun | 171 => 43 | 243 => 76 | 246 => 104 | 283 => 131 | 284 => 132 | 285 => 133 | 286 => 134 | 129 => 119 | 317 => 152 | 318 => 153 | 319 => 154 | 320 => 155 | 337 => 161 | 338 => 162 | n => n, fun | 3 => 3 | 9 => 9 | 2 => 2 | 4 => 4 | 171 => 200 | 0 => 0 | 53 => 157 | 37 => 158 | 5 => 5 | 173 => 202 | 212 => 220 | 51 => 190 | 20 => 20 | 213 => 221 | 46 => 168 | 232 => 231 | 233 => 232 | n => n, fun | 17 => 3 | 18 => 4 | 19 => 5 | n => n⟩
theorem Tryd.laysM171 : Go.Proofs.LaysM.n171 Tryd.prog Tryd.laysM171_ren := {
  mixed := by kernel_rfl
  f129 := Tryd.func119.trans (congrArg some (by kernel_rfl))
  f171 := Tryd.func43.trans (congrArg some (by kernel_rfl))
  f243 := Tryd.func76.trans (congrArg some (by kernel_rfl))
  f246 := Tryd.func104.trans (congrArg some (by kernel_rfl))
  f283 := Tryd.func131.trans (congrArg some (by kernel_rfl))
  f284 := Tryd.func132.trans (congrArg some (by kernel_rfl))
  f285 := Tryd.func133.trans (congrArg some (by kernel_rfl))
  f286 := Tryd.func134.trans (congrArg some (by kernel_rfl))
  f317 := Tryd.func152.trans (congrArg some (by kernel_rfl))
  f318 := Tryd.func153.trans (congrArg some (by kernel_rfl))
  f319 := Tryd.func154.trans (congrArg some (by kernel_rfl))
  f320 := Tryd.func155.trans (congrArg some (by kernel_rfl))
  f337 := Tryd.func161.trans (congrArg some (by kernel_rfl))
  f338 := Tryd.func162.trans (congrArg some (by kernel_rfl))
  t0 := Tryd.underlying0
  a0 := Tryd.isAgg0
  z0 := Tryd.sizeOf0
  v0 := Tryd.zeroValue0
  t2 := Tryd.underlying2
  a2 := Tryd.isAgg2
  z2 := Tryd.sizeOf2
  v2 := Tryd.zeroValue2
  t3 := Tryd.underlying3
  a3 := Tryd.isAgg3
  z3 := Tryd.sizeOf3
  v3 := Tryd.zeroValue3
  t4 := Tryd.underlying4
  a4 := Tryd.isAgg4
  z4 := Tryd.sizeOf4
  v4 := Tryd.zeroValue4
  t5 := Tryd.underlying5
  a5 := Tryd.isAgg5
  z5 := Tryd.sizeOf5
  v5 := Tryd.zeroValue5
  t9 := Tryd.underlying9
  a9 := Tryd.isAgg9
  z9 := Tryd.sizeOf9
  v9 := Tryd.zeroValue9
  t20 := Tryd.underlying20
  a20 := Tryd.isAgg20
  z20 := Tryd.sizeOf20
  v20 := Tryd.zeroValue20
  t37 := Tryd.underlying158
  a37 := Tryd.isAgg158
  z37 := Tryd.sizeOf158
  v37 := Tryd.zeroValue158
  t46 := Tryd.underlying168
  a46 := Tryd.isAgg168
  z46 := Tryd.sizeOf168
  v46 := Tryd.zeroValue168
  t51 := Tryd.underlying190
  a51 := Tryd.isAgg190
  z51 := Tryd.sizeOf190
  v51 := Tryd.zeroValue190
  t53 := Tryd.underlying157
  a53 := Tryd.isAgg157
  z53 := Tryd.sizeOf157
  v53 := Tryd.zeroValue157
  t171 := Tryd.underlying200
  a171 := Tryd.isAgg200
  z171 := Tryd.sizeOf200
  v171 := Tryd.zeroValue200
  t173 := Tryd.underlying202
  a173 := Tryd.isAgg202
  z173 := Tryd.sizeOf202
  v173 := Tryd.zeroValue202
  t212 := Tryd.underlying220
  a212 := Tryd.isAgg220
  z212 := Tryd.sizeOf220
  v212 := Tryd.zeroValue220
  t213 := Tryd.underlying221
  a213 := Tryd.isAgg221
  z213 := Tryd.sizeOf221
  t232 := Tryd.underlying231
  a232 := Tryd.isAgg231
  z232 := Tryd.sizeOf231
  v232 := Tryd.zeroValue231
  t233 := Tryd.underlying232
  a233 := Tryd.isAgg232
  z233 := Tryd.sizeOf232
  v233 := Tryd.zeroValue232
  g17 := by kernel_rfl
  g18 := by kernel_rfl
  g19 := by kernel_rfl
  i0 := by kernel_rfl
  i2 := by kernel_rfl
  i3 := by kernel_rfl
  i4 := by kernel_rfl
  i5 := by kernel_rfl
  i9 := by kernel_rfl
  i20 := by kernel_rfl
  i37 := by kernel_rfl
  i46 := by kernel_rfl
  i51 := by kernel_rfl
  i53 := by kernel_rfl
  i171 := by kernel_rfl
  i173 := by kernel_rfl
  i212 := by kernel_rfl
  i232 := by kernel_rfl
  i233 := by kernel_rfl
  m17 := by kernel_rfl
  m18 := by kernel_rfl
  m19 := by kernel_rfl }
def Tryd.lays171_ren : Go.Shelf.Ren := ⟨fun | 171 => 43 | 243 => 76 | 246 => 104 | 283 => 131 | 284 => 132 | 285 => 133 | 286 => 134 | 129 => 119 | 317 => 152 | 318 => 153 | 319 => 154 | 320 => 155 | 337 => 161 | 338 => 162 | n => n, fun | 3 => 3 | 9 => 9 | 2 => 2 | 4 => 4 | 171 => 200 | 0 => 0 | 53 => 157 | 37 => 158 | 5 => 5 | 173 => 202 | 212 => 220 | 51 => 190 | 20 => 20 | 213 => 221 | 46 => 168 | 232 => 231 | 233 => 232 | n => n, fun | 17 => 3 | 18 => 4 | 19 => 5 | n => n⟩
theorem Tryd.lays171 : Go.Proofs.Lays.n171 Tryd.prog Tryd.lays171_ren := {
  mixed := by kernel_rfl
  f129 := Tryd.func119.trans (congrArg some (by kernel_rfl))
  f171 := Tryd.func43.trans (congrArg some (by kernel_rfl))
  f243 := Tryd.func76.trans (congrArg some (by kernel_rfl))
  f246 := Tryd.func104.trans (congrArg some (by kernel_rfl))
  f283 := Tryd.func131.trans (congrArg some (by kernel_rfl))
  f284 := Tryd.func132.trans (congrArg some (by kernel_rfl))
  f285 := Tryd.func133.trans (congrArg some (by kernel_rfl))
  f286 := Tryd.func134.trans (congrArg some (by kernel_rfl))
  f317 := Tryd.func152.trans (congrArg some (by kernel_rfl))
  f318 := Tryd.func153.trans (congrArg some (by kernel_rfl))
  f319 := Tryd.func154.trans (congrArg some (by kernel_rfl))
  f320 := Tryd.func155.trans (congrArg some (by kernel_rfl))
  f337 := Tryd.func161.trans (congrArg some (by kernel_rfl))
  f338 := Tryd.func162.trans (congrArg some (by kernel_rfl))
  t0 := Tryd.underlying0
  a0 := Tryd.isAgg0
  z0 := Tryd.sizeOf0
  v0 := Tryd.zeroValue0
  t2 := Tryd.underlying2
  a2 := Tryd.isAgg2
  z2 := Tryd.sizeOf2
  v2 := Tryd.zeroValue2
  t3 := Tryd.underlying3
  a3 := Tryd.isAgg3
  z3 := Tryd.sizeOf3
  v3 := Tryd.zeroValue3
  t4 := Tryd.underlying4
  a4 := Tryd.isAgg4
  z4 := Tryd.sizeOf4
  v4 := Tryd.zeroValue4
  t5 := Tryd.underlying5
  a5 := Tryd.isAgg5
  z5 := Tryd.sizeOf5
  v5 := Tryd.zeroValue5
  t9 := Tryd.underlying9
  a9 := Tryd.isAgg9
  z9 := Tryd.sizeOf9
  v9 := Tryd.zeroValue9
  t20 := Tryd.underlying20
  a20 := Tryd.isAgg20
  z20 := Tryd.sizeOf20
  v20 := Tryd.zeroValue20
  t37 := Tryd.underlying158
  a37 := Tryd.isAgg158
  z37 := Tryd.sizeOf158
  v37 := Tryd.zeroValue158
  t46 := Tryd.underlying168
  a46 := Tryd.isAgg168
  z46 := Tryd.sizeOf168
  v46 := Tryd.zeroValue168
  t51 := Tryd.underlying190
  a51 := Tryd.isAgg190
  z51 := Tryd.sizeOf190
  v51 := Tryd.zeroValue190
  t53 := Tryd.underlying157
  a53 := Tryd.isAgg157
  z53 := Tryd.sizeOf157
  v53 := Tryd.zeroValue157
  t171 := Tryd.underlying200
  a171 := Tryd.isAgg200
  z171 := Tryd.sizeOf200
  v171 := Tryd.zeroValue200
  t173 := Tryd.underlying202
  a173 := Tryd.isAgg202
  z173 := Tryd.sizeOf202
  v173 := Tryd.zeroValue202
  t212 := Tryd.underlying220
  a212 := Tryd.isAgg220
  z212 := Tryd.sizeOf220
  v212 := Tryd.zeroValue220
  t213 := Tryd.underlying221
  a213 := Tryd.isAgg221
  z213 := Tryd.sizeOf221
  t232 := Tryd.underlying231
  a232 := Tryd.isAgg231
  z232 := Tryd.sizeOf231
  v232 := Tryd.zeroValue231
  t233 := Tryd.underlying232
  a233 := Tryd.isAgg232
  z233 := Tryd.sizeOf232
  v233 := Tryd.zeroValue232
  g17 := by kernel_rfl
  g18 := by kernel_rfl
  g19 := by kernel_rfl }
end Go.Proofs
namespace Go.Proofs.Cost58
open Go Go.Proofs Go.Ab Go.RowKit

def S (s : ByteArray) : V := .lit (.string s)
def itoaB (n : Int) : ByteArray := ⟨(Lib.itoa n).toArray⟩
def joinB (xs : List ByteArray) (sep : ByteArray) : ByteArray := ⟨(Lib.join (xs.map (·.data.toList)) sep.data.toList).toArray⟩

theorem itoa_spec (n : Int) (h0 : -9223372036854775808 ≤ n) (h1 : n ≤ 9223372036854775807) : Sp 43 [I n] (S (itoaB n)) := by
  refine spec_lits (us := [.int .i64 n]) (by kernel_rfl) rfl fun w F hl => ?_
  refine (Any.strconv_Itoa Tryd.laysM171 n h0 h1 w ?_).mono ?_
  · obtain ⟨t, z, hp⟩ := hl.p10.2
    refine Option.bind_eq_some_iff.2 ⟨3, by kernel_rfl, ?_⟩
    rw [hp]
  · rintro e w' ⟨rfl, k, os, rfl⟩
    exact ⟨rfl, below_grow⟩

theorem cells_strs {xs : List ByteArray} : (xs.map S).flatMap V.cells = xs.map S := by
  induction xs with
  | nil => rfl
  | cons x xs ih => rw [List.map_cons, List.flatMap_cons, ih]; rfl
theorem spot_none {w : World} {a : Addr} {v : Value} (h : w.cell? a = some v) : a = ⟨a.block, a.off, none⟩ ∧ a.block < w.heap.size := by
  obtain ⟨b, o, s⟩ := a
  unfold World.cell? at h
  simp only at h
  cases hb : w.heap[b]? with
  | none => rw [hb] at h; cases h
  | some ob =>
    have hlt : b < w.heap.size := by
      rcases Nat.lt_or_ge b w.heap.size with hlt | hge
      · exact hlt
      · rw [Array.getElem?_eq_none hge] at hb; cases hb
    rw [hb] at h
    cases ob <;> simp only at h <;> first | (cases h; done) | skip
    cases s with
    | none => exact ⟨rfl, hlt⟩
    | some k => simp at h
/-- what a slice of strings is in memory -/
theorem strs_inv {w : World} {G : Gh} {v : Value} {xs : List ByteArray} (h : Rv w G v (.sl (xs.map S))) : (xs = [] ∧ ∃ a c, v = .slice a 0 c) ∨ ∃ bk o c, v = .slice (some ⟨bk, o, none⟩) xs.length c ∧ xs.length ≤ c ∧ bk < w.heap.size ∧ ∀ (j : Nat) x, xs[j]? = some x → w.cell? ⟨bk, o + j, none⟩ = some (.string x) := by
  generalize hx : V.sl (xs.map S) = y at h
  cases h with
  | slN =>
    cases hx' : xs with
    | nil => exact .inl ⟨rfl, none, 0, rfl⟩
    | cons x r => rw [hx'] at hx; cases hx
  | slS a c l sz cc hc hm hf hz hcell hr =>
    cases hx
    have hl : (xs.map S).length = xs.length := by simp
    rw [hl] at hc ⊢
    cases hxs : xs with
    | nil => exact .inl ⟨rfl, some a, c, rfl⟩
    | cons x0 r =>
      right
      rw [← hxs]
      rw [cells_strs] at hcell hr
      have get : ∀ (j : Nat) x, xs[j]? = some x → w.cell? (a.add j) = some (.string x) := by
        intro j x hj
        have hy : (xs.map S)[j]? = some (S x) := by rw [List.getElem?_map, hj]; rfl
        have h1 := (hcell j _ hy).1
        have h2 : cc j = .string x := (hr j _ hy).lit_eq
        rw [h1, h2]
      have h0 := get 0 x0 (by rw [hxs]; rfl)
      have ha0 : a.add 0 = a := by simp [Addr.add]
      rw [ha0] at h0
      obtain ⟨e, hb⟩ := spot_none h0
      refine ⟨a.block, a.off, c, by rw [← e], hc, hb, fun j x hj => ?_⟩
      have := get j x hj
      have ea : a.add j = ⟨a.block, a.off + j, none⟩ := by
        unfold Addr.add
        split
        · rename_i hj0; subst hj0; rw [Nat.add_zero]; exact e
        · rfl
      rw [← ea]; exact this
  | _ => cases hx

theorem arr2 {cs : Array Value} (h : cs.size = 2) : ∃ a b, cs = #[a, b] := by
  obtain ⟨l⟩ := cs
  match l, h with
  | [a, b], _ => exact ⟨a, b, rfl⟩
theorem join_spec (xs : List ByteArray) (sep : ByteArray) (hlen : (Lib.join (xs.map (·.data.toList)) sep.data.toList).length ≤ 140737488355328) (hN : xs.length ≤ 140737488355328) : Sp 60 [.sl (xs.map S), S sep] (S (joinB xs sep)) := by
  refine spec_of_calls (by kernel_rfl) fun w G cs h1 h2 h4 h5 => ?_
  obtain ⟨v0, v1, rfl⟩ := arr2 h1
  have r0 := h4 0 v0 _ rfl rfl
  have r1 : v1 = .string sep := rb_lit (h4 1 v1 (S sep) rfl rfl)
  subst r1
  rcases strs_inv r0.2 with ⟨rfl, a, c, rfl⟩ | ⟨bk, o, c, rfl, hc, hb, hcell⟩
  · refine (Any.strings_Join_none Tryd.lays156 Tryd.Builder_Extra_156 a c sep w).mono ?_
    rintro e w' ⟨rfl, rfl⟩
    refine ⟨Below.refl _ _, _, rfl, ?_⟩
    have : joinB [] sep = ⟨#[]⟩ := rfl
    rw [this]
    exact rr_lit rfl
  · refine (Any.strings_Join Tryd.lays156 Tryd.Builder_Extra_156 bk o c xs sep w hcell hb hN hc hlen).mono ?_
    rintro e w' ⟨rfl, hb⟩
    exact ⟨hb, _, rfl, rr_lit rfl⟩
end Go.Proofs.Cost58
