/-
  Names, walked: letters, digits, what follows in a name.
  Labels, walked: which pieces can be labelled, and their labels.
-/
import Derived.Test.YtckcanemolkncaaDoorL2
import Derived.Test.YtckcanemolkncaaDoorW2
import Derived.Laws.StructEq
import Derived.WideShapes
import Derived.Lib.ItoaLen
import Derived.Lib.SmallJoins
set_option linter.unusedVariables false
set_option linter.unusedSimpArgs false
namespace Go.Proofs.Cost58
open Go Go.Proofs Go.Ab
set_option maxRecDepth 100000

def U (n : Int) : V := .lit (.int .u8 n)
theorem eqS_t {a b : ByteArray} : eqS a b = true ↔ a = b := by
  unfold eqS
  rw [beq_iff_eq, ByteArray.toList_eq, ByteArray.toList_eq]
  exact ⟨WideShapes.bytes_inj, fun h => by rw [h]⟩
theorem eqS_f {a b : ByteArray} : eqS a b = false ↔ a ≠ b := by rw [← Bool.not_eq_true, eqS_t]
theorem br_eqS {a b : ByteArray} {A B : Prop} (h1 : a = b → A) (h2 : a ≠ b → B) : branch (eqS a b) A B := branch_s (fun h => h1 (eqS_t.1 h)) (fun h => h2 (eqS_f.1 h))
theorem eqS_dec {a b : ByteArray} {p : Prop} (h : a = b ↔ p) : eqS a b = decB p := Bool.eq_iff_iff.2 (by rw [eqS_t, decB_t]; exact h)

def isLetter (c : Int) : Prop := (97 ≤ c ∧ c ≤ 122) ∨ (65 ≤ c ∧ c ≤ 90)
def isDigit (c : Int) : Prop := 48 ≤ c ∧ c ≤ 57
def isInner (c : Int) : Prop := isLetter c ∨ isDigit c ∨ c = 95
def isName (s : ByteArray) : Prop := 1 ≤ s.size ∧ s.size ≤ 16 ∧ isLetter (byteAt s 0) ∧ ∀ i, i < s.size → isInner (byteAt s i)
theorem ret_boolD {ar : Nat → Option AE} {b : Bool} {p : Prop} (h : b = decB p) : giveL T ar [.lit (.bool (decB p))] [.lit (.bool b)] ∧ keysOk [.lit (.bool b)] [.lit (.bool (decB p))] = true ∧ (∀ rs, (V.lit (.bool (decB p))) ≠ .tup rs) := ret_bool h

theorem letter_vc (c : Int) : fnVC T Tryd.prog Tryd.f71 [U c] (.lit (.bool (decB (isLetter c)))) := by
  repeat' ((conv => whnf); first
    | refine seq_go ?_
    | refine draw_i (by kernel_rfl) ?_
    | refine arith_half (by omega) ?_
    | refine arith_in (by omega) ?_
    | refine arith_u (by omega) ?_
    | refine need_i (p := (T.row _).eq = true) (by kernel_rfl) ?_
    | refine need_i (by omega) ?_
    | refine br_not ?_
    | refine br_dec (fun hd => ?_) (fun hd => ?_)
    | refine br_lt (fun hlt => ?_) (fun hlt => ?_)
    | refine br_le (fun hle => ?_) (fun hle => ?_)
    | refine br_eq (fun heq => ?_) (fun heq => ?_)
    | refine idx_map (by omega) (fun x hx => ?_)
    | refine live_i rfl (fun h => by cases h) ?_
    | refine branch_s (fun hbb => ?_) (fun hbb => ?_)
    | refine ret_i ?_)
  all_goals (conv => whnf)
  all_goals refine ret_boolD ?_
  · exact dec_ret (by unfold isLetter; omega)
  · refine le_dec ?_
    unfold isLetter; omega
  · exact dec_retf (by unfold isLetter; omega)
  · refine le_dec ?_
    unfold isLetter; omega
  · exact dec_retf (by unfold isLetter; omega)
theorem letter_spec (c : Int) : Sp 71 [U c] (.lit (.bool (decB (isLetter c)))) := sp_of Tryd.func71 (by kernel_rfl) (by kernel_rfl) (letter_vc c)
theorem digit_vc (c : Int) : fnVC T Tryd.prog Tryd.f101 [U c] (.lit (.bool (decB (isDigit c)))) := by
  repeat' ((conv => whnf); first
    | refine seq_go ?_
    | refine draw_i (by kernel_rfl) ?_
    | refine arith_half (by omega) ?_
    | refine arith_in (by omega) ?_
    | refine arith_u (by omega) ?_
    | refine need_i (p := (T.row _).eq = true) (by kernel_rfl) ?_
    | refine need_i (by omega) ?_
    | refine br_not ?_
    | refine br_dec (fun hd => ?_) (fun hd => ?_)
    | refine br_lt (fun hlt => ?_) (fun hlt => ?_)
    | refine br_le (fun hle => ?_) (fun hle => ?_)
    | refine br_eq (fun heq => ?_) (fun heq => ?_)
    | refine idx_map (by omega) (fun x hx => ?_)
    | refine live_i rfl (fun h => by cases h) ?_
    | refine branch_s (fun hbb => ?_) (fun hbb => ?_)
    | refine ret_i ?_)
  all_goals (conv => whnf)
  all_goals refine ret_boolD ?_
  · refine le_dec ?_
    unfold isDigit; omega
  · exact dec_retf (by unfold isDigit; omega)
theorem digit_spec (c : Int) : Sp 101 [U c] (.lit (.bool (decB (isDigit c)))) := sp_of Tryd.func101 (by kernel_rfl) (by kernel_rfl) (digit_vc c)
theorem inner_vc (c : Int) : fnVC T Tryd.prog Tryd.f73 [U c] (.lit (.bool (decB (isInner c)))) := by
  repeat' ((conv => whnf); first
    | (refine call_i (letter_spec c) false ?_ rfl ?_; focus ((repeat' (first | exact trivial | refine And.intro ?_ ?_ | with_reducible rfl | exact (fun h => by cases h) | exact rfl)); done))
    | (refine call_i (digit_spec c) false ?_ rfl ?_; focus ((repeat' (first | exact trivial | refine And.intro ?_ ?_ | with_reducible rfl | exact (fun h => by cases h) | exact rfl)); done))
    | refine seq_go ?_
    | refine draw_i (by kernel_rfl) ?_
    | refine arith_half (by omega) ?_
    | refine arith_in (by omega) ?_
    | refine arith_u (by omega) ?_
    | refine need_i (p := (T.row _).eq = true) (by kernel_rfl) ?_
    | refine need_i (by omega) ?_
    | refine br_not ?_
    | refine br_dec (fun hd => ?_) (fun hd => ?_)
    | refine br_lt (fun hlt => ?_) (fun hlt => ?_)
    | refine br_le (fun hle => ?_) (fun hle => ?_)
    | refine br_eq (fun heq => ?_) (fun heq => ?_)
    | refine idx_map (by omega) (fun x hx => ?_)
    | refine live_i rfl (fun h => by cases h) ?_
    | refine branch_s (fun hbb => ?_) (fun hbb => ?_)
    | refine ret_i ?_)
  all_goals (conv => whnf)
  all_goals refine ret_boolD ?_
  · exact dec_ret (.inl hd)
  · exact dec_ret (.inr (.inl hd))
  · rename_i h1
    refine eq_dec ⟨fun h => .inr (.inr h), fun h => ?_⟩
    rcases h with h | h | h
    · exact (h1 h).elim
    · exact (hd h).elim
    · exact h
theorem inner_spec (c : Int) : Sp 73 [U c] (.lit (.bool (decB (isInner c)))) := sp_of Tryd.func73 (by kernel_rfl) (by kernel_rfl) (inner_vc c)

/-- how far a kind of bytes goes -/
noncomputable def wh (p : Nat → Bool) : Nat → Nat → Nat
  | 0, i => i
  | f + 1, i => if p i then wh p f (i + 1) else i
theorem wh_step {p : Nat → Bool} {f i : Nat} (h : p i = true) : wh p (f + 1) i = wh p f (i + 1) := by rw [wh, if_pos h]
theorem wh_stop {p : Nat → Bool} {f i : Nat} (h : p i = false) : wh p (f + 1) i = i := by rw [wh, if_neg (by simp [h])]
theorem wh_le (p : Nat → Bool) : ∀ f i, wh p f i ≤ i + f
  | 0, i => Nat.le_refl _
  | f + 1, i => by rw [wh]; split
                   · have := wh_le p f (i + 1); omega
                   · omega
theorem wh_all (p : Nat → Bool) : ∀ f i, wh p f i = i + f ↔ ∀ j, i ≤ j → j < i + f → p j = true
  | 0, i => by simp [wh]; omega
  | f + 1, i => by
    rw [wh]
    split
    · rename_i h
      have := wh_all p f (i + 1)
      rw [show i + (f + 1) = i + 1 + f by omega, this]
      constructor
      · intro h1 j hj hj2
        rcases Nat.eq_or_lt_of_le hj with rfl | hlt
        · exact h
        · exact h1 j hlt hj2
      · intro h1 j hj hj2
        exact h1 j (by omega) hj2
    · rename_i h
      constructor
      · intro h1; omega
      · intro h1; exact (h (h1 i (Nat.le_refl _) (by omega))).elim
noncomputable def whS (K : Int → Prop) (s : ByteArray) (i : Nat) : Nat := wh (fun j => decB (K (byteAt s j))) (s.size - i) i
theorem need_str {s : ByteArray} {z : Int} {K : Prop} (h : 0 ≤ z ∧ z < s.size) (hk : K) : need (0 ≤ z ∧ z < (s.size : Int)) K := need_i h hk
theorem while_vc {g : FuncId} {Kd : Int → Prop} (hg : ∀ c, Sp g [U c] (.lit (.bool (decB (Kd c))))) (s : ByteArray) (i : Nat) (hs : s.size ≤ 1000000000) :
    fnVC T Tryd.prog Tryd.f72 [S s, I i, .fn g []] (I (whS Kd s i)) := by
  repeat' ((conv => whnf); first
    | refine seq_go ?_
    | refine draw_i (by kernel_rfl) ?_
    | refine arith_half (by omega) ?_
    | refine arith_in (by omega) ?_
    | refine arith_u (by omega) ?_
    | refine need_i (p := (T.row _).eq = true) (by kernel_rfl) ?_
    | refine need_i (by omega) ?_
    | refine br_not ?_
    | refine br_dec (fun hd => ?_) (fun hd => ?_)
    | refine br_lt (fun hlt => ?_) (fun hlt => ?_)
    | refine br_le (fun hle => ?_) (fun hle => ?_)
    | refine br_eq (fun heq => ?_) (fun heq => ?_)
    | refine idx_map (by omega) (fun x hx => ?_)
    | refine live_i rfl (fun h => by cases h) ?_
    | refine branch_s (fun hbb => ?_) (fun hbb => ?_)
    | refine ret_i ?_)
  refine loop_i (A := Nat) (fun k => mkSt [(0, S s), (1, I k), (2, .fn g [])] [] []) (fun k => whS Kd s k = whS Kd s i) (fun k => s.size - k) i ?_ rfl (fun k hk => ?_)
  · refine le_mk ?_ ?_ ?_ ?_
    all_goals repeat' (first | exact trivial | refine And.intro ?_ ?_ | with_reducible rfl | exact Nat.le_refl _ | omega | exact rfl)
  · change whS Kd s k = whS Kd s i at hk
    rcases Nat.lt_or_ge k s.size with hlt | hge
    · obtain ⟨f, hf⟩ : ∃ f, s.size - k = f + 1 := ⟨s.size - k - 1, by omega⟩
      have hks : whS Kd s k = wh (fun j => decB (Kd (byteAt s j))) (f + 1) k := by unfold whS; rw [hf]
      repeat' ((conv => whnf); first
        | (exfalso; omega)
        | (refine call_i (hg (byteAt s k)) false ?_ rfl ?_; focus ((repeat' (first | exact trivial | refine And.intro ?_ ?_ | with_reducible rfl | exact (fun h => by cases h) | exact rfl)); done))
        | refine seq_go ?_
        | refine draw_i (by kernel_rfl) ?_
        | refine arith_half (by omega) ?_
        | refine arith_in (by omega) ?_
        | refine arith_u (by omega) ?_
        | refine need_i (p := (T.row _).eq = true) (by kernel_rfl) ?_
        | refine need_i (by omega) ?_
        | refine br_not ?_
        | refine br_dec (fun hd => ?_) (fun hd => ?_)
        | refine br_lt (fun hlt => ?_) (fun hlt => ?_)
        | refine br_le (fun hle => ?_) (fun hle => ?_)
        | refine br_eq (fun heq => ?_) (fun heq => ?_)
        | refine idx_map (by omega) (fun x hx => ?_)
        | refine live_i rfl (fun h => by cases h) ?_
        | refine branch_s (fun hbb => ?_) (fun hbb => ?_)
        | refine ret_i ?_)
      · conv => whnf
        refine ⟨k + 1, ?_, ?_, by omega⟩
        · refine le_mk ?_ ?_ ?_ ?_
          all_goals repeat' (first | exact trivial | refine And.intro ?_ ?_ | with_reducible rfl | exact Nat.le_refl _ | omega | exact rfl)
        · show whS Kd s (k + 1) = _
          rw [← hk, hks, wh_step (decB_t.2 hd)]
          unfold whS
          rw [show s.size - (k + 1) = f by omega]
      · conv => whnf
        refine ret_int ?_
        rw [← hk, hks, wh_stop (decB_f.2 hd)]
    · have hks : whS Kd s k = k := by unfold whS; rw [show s.size - k = 0 by omega]; rfl
      repeat' ((conv => whnf); first
        | (exfalso; omega)
        | refine seq_go ?_
        | refine draw_i (by kernel_rfl) ?_
        | refine arith_half (by omega) ?_
        | refine arith_in (by omega) ?_
        | refine arith_u (by omega) ?_
        | refine need_i (p := (T.row _).eq = true) (by kernel_rfl) ?_
        | refine need_i (by omega) ?_
        | refine br_not ?_
        | refine br_dec (fun hd => ?_) (fun hd => ?_)
        | refine br_lt (fun hlt => ?_) (fun hlt => ?_)
        | refine br_le (fun hle => ?_) (fun hle => ?_)
        | refine br_eq (fun heq => ?_) (fun heq => ?_)
        | refine idx_map (by omega) (fun x hx => ?_)
        | refine live_i rfl (fun h => by cases h) ?_
        | refine branch_s (fun hbb => ?_) (fun hbb => ?_)
        | refine ret_i ?_)
      conv => whnf
      refine ret_int ?_
      rw [← hk, hks]
theorem while_spec {g : FuncId} {Kd : Int → Prop} (hg : ∀ c, Sp g [U c] (.lit (.bool (decB (Kd c))))) (s : ByteArray) (i : Nat) (hs : s.size ≤ 1000000000) :
    Sp 72 [S s, I i, .fn g []] (I (whS Kd s i)) := sp_of Tryd.func72 (by kernel_rfl) (by kernel_rfl) (while_vc hg s i hs)

theorem size_zero {s : ByteArray} : s.size = 0 ↔ s = { data := #[] } := by
  obtain ⟨a⟩ := s
  constructor
  · intro h
    have : a = #[] := Array.eq_empty_of_size_eq_zero h
    rw [this]
  · intro h; rw [h]; rfl
theorem name_vc (s : ByteArray) : fnVC T Tryd.prog Tryd.f37 [S s] (.lit (.bool (decB (isName s)))) := by
  have hz := size_zero (s := s)
  rcases Nat.lt_or_ge 16 s.size with hbig | hsm
  · repeat' ((conv => whnf); first
      | refine br_eqS (fun heq => ?_) (fun heq => ?_)
      | (exfalso; omega)
      | refine seq_go ?_
      | refine draw_i (by kernel_rfl) ?_
      | refine arith_half (by omega) ?_
      | refine arith_in (by omega) ?_
      | refine arith_u (by omega) ?_
      | refine need_i (p := (T.row _).eq = true) (by kernel_rfl) ?_
      | refine need_i (by omega) ?_
      | refine br_not ?_
      | refine br_dec (fun hd => ?_) (fun hd => ?_)
      | refine br_lt (fun hlt => ?_) (fun hlt => ?_)
      | refine br_le (fun hle => ?_) (fun hle => ?_)
      | refine br_eq (fun heq => ?_) (fun heq => ?_)
      | refine idx_map (by omega) (fun x hx => ?_)
      | refine live_i rfl (fun h => by cases h) ?_
      | refine branch_s (fun hbb => ?_) (fun hbb => ?_)
      | refine ret_i ?_)
    all_goals (conv => whnf)
    all_goals refine ret_boolD ?_
    all_goals exact dec_retf (fun h => by have := h.2.1; omega)
  · repeat' ((conv => whnf); first
      | refine br_eqS (fun heq => ?_) (fun heq => ?_)
      | (exfalso; omega)
      | refine need_str ⟨by omega, by have := mt hz.1 heq; omega⟩ ?_
      | (refine call_i (letter_spec (byteAt s 0)) false ?_ rfl ?_; focus ((repeat' (first | exact trivial | refine And.intro ?_ ?_ | with_reducible rfl | exact (fun h => by cases h) | exact rfl)); done))
      | (refine call_i (while_spec inner_spec s 0 (by omega)) false ?_ rfl ?_; focus ((repeat' (first | exact trivial | refine And.intro ?_ ?_ | with_reducible rfl | exact (fun h => by cases h) | exact rfl)); done))
      | refine seq_go ?_
      | refine draw_i (by kernel_rfl) ?_
      | refine arith_half (by omega) ?_
      | refine arith_in (by omega) ?_
      | refine arith_u (by omega) ?_
      | refine need_i (p := (T.row _).eq = true) (by kernel_rfl) ?_
      | refine need_i (by omega) ?_
      | refine br_not ?_
      | refine br_dec (fun hd => ?_) (fun hd => ?_)
      | refine br_lt (fun hlt => ?_) (fun hlt => ?_)
      | refine br_le (fun hle => ?_) (fun hle => ?_)
      | refine br_eq (fun heq => ?_) (fun heq => ?_)
      | refine idx_map (by omega) (fun x hx => ?_)
      | refine live_i rfl (fun h => by cases h) ?_
      | refine branch_s (fun hbb => ?_) (fun hbb => ?_)
      | refine ret_i ?_)
    all_goals (conv => whnf)
    all_goals refine ret_boolD ?_
    · exact dec_retf (fun h => by have := h.1; have := hz.2 heq; omega)
    · refine eq_dec ?_
      have hw := wh_all (fun j => decB (isInner (byteAt s j))) s.size 0
      have hs0 : whS isInner s 0 = wh (fun j => decB (isInner (byteAt s j))) s.size 0 := rfl
      have hne := mt hz.1 heq
      rw [← hs0, Nat.zero_add] at hw
      have e : (((whS isInner s 0 : Nat) : Int) = (s.size : Int)) ↔ whS isInner s 0 = s.size := by omega
      show (((whS isInner s 0 : Nat) : Int) = (s.size : Int)) ↔ _
      rw [e, hw]
      constructor
      · intro h
        exact ⟨by omega, hsm, hd, fun i hi => decB_t.1 (h i (Nat.zero_le _) (by omega))⟩
      · intro h j _ hj
        exact decB_t.2 (h.2.2.2 j (by omega))
    · exact dec_retf (fun h => hd h.2.2.1)
theorem name_spec (s : ByteArray) : Sp 37 [S s] (.lit (.bool (decB (isName s)))) := sp_of Tryd.func37 (by kernel_rfl) (by kernel_rfl) (name_vc s)
end Go.Proofs.Cost58
namespace Go.Proofs.Cost58
open Go Go.Proofs Go.Ab
set_option maxRecDepth 100000

structure Pc where
  id : Int
  par : Int
  part : ByteArray
  grade : ByteArray
  heat : ByteArray
  size : Int
  bar : Bool
  status : Int
  order : ByteArray
def pcV (p : Pc) : V := .agg [I p.id, I p.par, S p.part, S p.grade, S p.heat, I p.size, .lit (.bool p.bar), I p.status, S p.order]
def idOk (n : Int) : Prop := 1 ≤ n ∧ n ≤ 1000000
theorem id_vc (n : Int) : fnVC T Tryd.prog Tryd.f90 [I n] (.lit (.bool (decB (idOk n)))) := by
  repeat' ((conv => whnf); first
    | refine seq_go ?_
    | refine draw_i (by kernel_rfl) ?_
    | refine arith_half (by omega) ?_
    | refine arith_in (by omega) ?_
    | refine arith_u (by omega) ?_
    | refine need_i (p := (T.row _).eq = true) (by kernel_rfl) ?_
    | refine need_i (by omega) ?_
    | refine br_not ?_
    | refine br_dec (fun hd => ?_) (fun hd => ?_)
    | refine br_lt (fun hlt => ?_) (fun hlt => ?_)
    | refine br_le (fun hle => ?_) (fun hle => ?_)
    | refine br_eq (fun heq => ?_) (fun heq => ?_)
    | refine idx_map (by omega) (fun x hx => ?_)
    | refine live_i rfl (fun h => by cases h) ?_
    | refine branch_s (fun hbb => ?_) (fun hbb => ?_)
    | refine ret_i ?_)
  all_goals (conv => whnf)
  all_goals refine ret_boolD ?_
  · refine le_dec ?_
    unfold idOk; omega
  · exact dec_retf (by unfold idOk; omega)
theorem id_spec (n : Int) : Sp 90 [I n] (.lit (.bool (decB (idOk n)))) := sp_of Tryd.func90 (by kernel_rfl) (by kernel_rfl) (id_vc n)

abbrev emptyB : ByteArray := { data := #[] }
def statusOk (p : Pc) : Prop := ((p.status = 1 ∨ p.status = 2) ∧ p.order = emptyB) ∨ (p.status = 3 ∧ isName p.order)
def labelled (p : Pc) : Prop := idOk p.id ∧ idOk p.par ∧ isName p.part ∧ isName p.grade ∧ isName p.heat ∧ (1 ≤ p.size ∧ p.size ≤ 1000000000) ∧ statusOk p
theorem labelled_vc (p : Pc) : fnVC T Tryd.prog Tryd.f59 [pcV p] (.lit (.bool (decB (labelled p)))) := by
  repeat' ((conv => whnf); first
    | (refine call_i (id_spec p.id) false ?_ rfl ?_; focus ((repeat' (first | exact trivial | refine And.intro ?_ ?_ | with_reducible rfl | exact (fun h => by cases h) | exact rfl)); done))
    | (refine call_i (id_spec p.par) false ?_ rfl ?_; focus ((repeat' (first | exact trivial | refine And.intro ?_ ?_ | with_reducible rfl | exact (fun h => by cases h) | exact rfl)); done))
    | (refine call_i (name_spec p.part) false ?_ rfl ?_; focus ((repeat' (first | exact trivial | refine And.intro ?_ ?_ | with_reducible rfl | exact (fun h => by cases h) | exact rfl)); done))
    | (refine call_i (name_spec p.grade) false ?_ rfl ?_; focus ((repeat' (first | exact trivial | refine And.intro ?_ ?_ | with_reducible rfl | exact (fun h => by cases h) | exact rfl)); done))
    | (refine call_i (name_spec p.heat) false ?_ rfl ?_; focus ((repeat' (first | exact trivial | refine And.intro ?_ ?_ | with_reducible rfl | exact (fun h => by cases h) | exact rfl)); done))
    | (refine call_i (name_spec p.order) false ?_ rfl ?_; focus ((repeat' (first | exact trivial | refine And.intro ?_ ?_ | with_reducible rfl | exact (fun h => by cases h) | exact rfl)); done))
    | refine seq_go ?_
    | refine draw_i (by kernel_rfl) ?_
    | refine arith_half (by omega) ?_
    | refine arith_in (by omega) ?_
    | refine arith_u (by omega) ?_
    | refine need_i (p := (T.row _).eq = true) (by kernel_rfl) ?_
    | refine need_i (by omega) ?_
    | refine br_not ?_
    | refine br_dec (fun hd => ?_) (fun hd => ?_)
    | refine br_lt (fun hlt => ?_) (fun hlt => ?_)
    | refine br_le (fun hle => ?_) (fun hle => ?_)
    | refine br_eq (fun heq => ?_) (fun heq => ?_)
    | refine idx_map (by omega) (fun x hx => ?_)
    | refine live_i rfl (fun h => by cases h) ?_
    | refine branch_s (fun hbb => ?_) (fun hbb => ?_)
    | refine ret_i ?_)
  all_goals (conv => whnf)
  all_goals refine ret_boolD ?_
  all_goals first
    | (refine dec_retf ?_; rintro ⟨h1, h2, h3, h4, h5, h6, h7⟩; first | contradiction | omega | (rcases h7 with ⟨h8 | h8, _⟩ | ⟨h8, _⟩ <;> omega); done)
    | (refine eqS_dec ⟨fun h => ⟨by assumption, by assumption, by assumption, by assumption, by assumption, by omega, .inl ⟨by omega, h⟩⟩, fun h => ?_⟩; obtain ⟨_, _, _, _, _, _, h7⟩ := h; rcases h7 with ⟨_, h9⟩ | ⟨h8, _⟩; exact h9; omega)
    | (refine dec_dec ⟨fun h => ⟨by assumption, by assumption, by assumption, by assumption, by assumption, by omega, .inr ⟨by omega, h⟩⟩, fun h => ?_⟩; obtain ⟨_, _, _, _, _, _, h7⟩ := h; rcases h7 with ⟨h8 | h8, _⟩ | ⟨_, h9⟩; omega; omega; exact h9)
    | (exfalso; omega)
theorem labelled_spec (p : Pc) : Sp 59 [pcV p] (.lit (.bool (decB (labelled p)))) := sp_of Tryd.func59 (by kernel_rfl) (by kernel_rfl) (labelled_vc p)

/-- the words of a label -/
def fromB : ByteArray := { data := #[102, 114, 111, 109] }
def areaB : ByteArray := { data := #[97, 114, 101, 97] }
def lengthB : ByteArray := { data := #[108, 101, 110, 103, 116, 104] }
def goodB : ByteArray := { data := #[103, 111, 111, 100] }
def rejectedB : ByteArray := { data := #[114, 101, 106, 101, 99, 116, 101, 100] }
def shippedB : ByteArray := { data := #[115, 104, 105, 112, 112, 101, 100, 32, 116, 111, 32] }
def colonB : ByteArray := { data := #[58] }
def spaceB : ByteArray := { data := #[32] }
def whatB (p : Pc) : ByteArray := match p.bar with | true => lengthB | false => areaB
def statB (p : Pc) : ByteArray := if p.status = 2 then rejectedB else if p.status = 3 then shippedB ++ p.order else goodB
def labelB (p : Pc) : ByteArray := joinB [itoaB p.id, fromB, itoaB p.par ++ colonB, p.part, p.grade, p.heat, whatB p, itoaB p.size, statB p] spaceB
open Classical in
noncomputable def labelR (p : Pc) : ByteArray × Int := if labelled p then (labelB p, 0) else (emptyB, 1)
theorem labelR_ok {p : Pc} (h : labelled p) : labelR p = (labelB p, 0) := by unfold labelR; rw [if_pos h]
theorem labelR_no {p : Pc} (h : ¬ labelled p) : labelR p = (emptyB, 1) := by unfold labelR; rw [if_neg h]
theorem itoaB_size (n : Int) (h0 : -9223372036854775808 ≤ n) (h1 : n ≤ 9223372036854775807) : (itoaB n).size ≤ 21 := by
  have := Lib.itoa_length_le n h0 h1
  show (Lib.itoa n).toArray.size ≤ 21
  simpa using this
theorem cat_size (a b : ByteArray) : (a ++ b).size = a.size + b.size := ByteArray.size_append
theorem data_len (s : ByteArray) : s.data.toList.length = s.size := Array.length_toList
set_option maxRecDepth 1000 in
theorem join_len : ∀ (xs : List (List UInt8)) (n : Nat), (∀ x ∈ xs, x.length ≤ n) → (List.intercalate [32] xs).length ≤ xs.length * (n + 1)
  | [], n, _ => Nat.zero_le _
  | [x], n, h => by
    have := h x (by simp)
    rw [List.intercalate_singleton, List.length_singleton]; omega
  | x :: y :: r, n, h => by
    have ih := join_len (y :: r) n (fun z hz => h z (List.mem_cons_of_mem _ hz))
    have h1 := h x (by simp)
    rw [List.intercalate_cons_cons, List.length_append, List.length_append, List.length_singleton, List.length_cons (a := x), Nat.add_mul]
    omega
theorem label_join (p : Pc) (hl : labelled p) (what st : ByteArray) (hw : what.size ≤ 30) (hst : st.size ≤ 30) : Sp 60 [.sl ([itoaB p.id, fromB, itoaB p.par ++ colonB, p.part, p.grade, p.heat, what, itoaB p.size, st].map S), S spaceB] (S (joinB [itoaB p.id, fromB, itoaB p.par ++ colonB, p.part, p.grade, p.heat, what, itoaB p.size, st] spaceB)) := by
  obtain ⟨h1, h2, h3, h4, h5, h6, h7⟩ := id hl
  have k1 := h1.1; have k2 := h1.2; have k3 := h2.1; have k4 := h2.2
  refine join_spec _ _ (Nat.le_trans (join_len _ 40 ?_) (by simp)) (by simp)
  intro x hx
  have hz1 := itoaB_size p.id (by omega) (by omega)
  have hz2 := itoaB_size p.par (by omega) (by omega)
  have hz3 := itoaB_size p.size (by omega) (by omega)
  have hc : colonB.size = 1 := rfl
  have hf : fromB.size = 4 := rfl
  have q1 := h3.2.1
  have q2 := h4.2.1
  have q3 := h5.2.1
  simp only [List.map_cons, List.map_nil, List.mem_cons, List.not_mem_nil, or_false] at hx
  rcases hx with rfl | rfl | rfl | rfl | rfl | rfl | rfl | rfl | rfl <;> rw [data_len] <;> first | omega | (rw [cat_size]; omega)
set_option maxHeartbeats 400000 in
theorem label_t1 (p : Pc) (hl : labelled p) (hb : p.bar = true) (hst : p.status = 1) : fnVC T Tryd.prog Tryd.f28 [pcV p] (.tup [S (labelB p), I 0]) := by
  obtain ⟨h1, h2, h3, h4, h5, h6, h7⟩ := id hl
  have k1 := h1.1; have k2 := h1.2; have k3 := h2.1; have k4 := h2.2
  have ho : p.order.size ≤ 16 := by
    rcases h7 with ⟨_, h⟩ | ⟨_, h⟩
    · rw [h]; decide
    · exact h.2.1
  have hz2 := itoaB_size p.par (by omega) (by omega)
  have hs11 : shippedB.size = 11 := rfl
  have hlb : labelB p = joinB [itoaB p.id, fromB, itoaB p.par ++ colonB, p.part, p.grade, p.heat, lengthB, itoaB p.size, goodB] spaceB := by
    unfold labelB whatB statB
    rw [hb, hst]; rfl
  have hj := label_join p hl lengthB goodB (by decide) (by decide)
  rw [← hlb] at hj
  repeat' ((conv => whnf); first
    | (refine call_i (labelled_spec p) false ?_ rfl ?_; focus ((repeat' (first | exact trivial | refine And.intro ?_ ?_ | with_reducible rfl | exact (fun h => by cases h) | exact rfl)); done))
    | (exact (hd hl).elim)
    | (exfalso; omega)
    | refine branch_t hb ?_
    | (refine call_i (itoa_spec p.id (by omega) (by omega)) false ?_ rfl ?_; focus ((repeat' (first | exact trivial | refine And.intro ?_ ?_ | with_reducible rfl | exact (fun h => by cases h) | exact rfl)); done))
    | (refine call_i (itoa_spec p.par (by omega) (by omega)) false ?_ rfl ?_; focus ((repeat' (first | exact trivial | refine And.intro ?_ ?_ | with_reducible rfl | exact (fun h => by cases h) | exact rfl)); done))
    | (refine call_i (itoa_spec p.size (by omega) (by omega)) false ?_ rfl ?_; focus ((repeat' (first | exact trivial | refine And.intro ?_ ?_ | with_reducible rfl | exact (fun h => by cases h) | exact rfl)); done))
    | refine need_i (show (itoaB p.par).size + colonB.size ≤ 9223372036854775807 by have : colonB.size = 1 := rfl; omega) ?_
    | refine need_i (show shippedB.size + p.order.size ≤ 9223372036854775807 by omega) ?_
    | (refine call_i (hj) true ?_ rfl ?_; focus ((repeat' (first | exact trivial | refine And.intro ?_ ?_ | with_reducible rfl | exact (fun h => by cases h) | exact rfl)); done))
    | refine seq_go ?_
    | refine draw_i (by kernel_rfl) ?_
    | refine arith_half (by omega) ?_
    | refine arith_in (by omega) ?_
    | refine arith_u (by omega) ?_
    | refine need_i (p := (T.row _).eq = true) (by kernel_rfl) ?_
    | refine need_i (by omega) ?_
    | refine br_not ?_
    | refine br_dec (fun hd => ?_) (fun hd => ?_)
    | refine br_lt (fun hlt => ?_) (fun hlt => ?_)
    | refine br_le (fun hle => ?_) (fun hle => ?_)
    | refine br_eq (fun heq => ?_) (fun heq => ?_)
    | refine idx_map (by omega) (fun x hx => ?_)
    | refine live_i rfl (fun h => by cases h) ?_
    | refine branch_s (fun hbb => ?_) (fun hbb => ?_)
    | refine ret_i ?_)
  conv => whnf
  exact ret_two rfl rfl rfl
set_option maxHeartbeats 400000 in
theorem label_t2 (p : Pc) (hl : labelled p) (hb : p.bar = true) (hst : p.status = 2) : fnVC T Tryd.prog Tryd.f28 [pcV p] (.tup [S (labelB p), I 0]) := by
  obtain ⟨h1, h2, h3, h4, h5, h6, h7⟩ := id hl
  have k1 := h1.1; have k2 := h1.2; have k3 := h2.1; have k4 := h2.2
  have ho : p.order.size ≤ 16 := by
    rcases h7 with ⟨_, h⟩ | ⟨_, h⟩
    · rw [h]; decide
    · exact h.2.1
  have hz2 := itoaB_size p.par (by omega) (by omega)
  have hs11 : shippedB.size = 11 := rfl
  have hlb : labelB p = joinB [itoaB p.id, fromB, itoaB p.par ++ colonB, p.part, p.grade, p.heat, lengthB, itoaB p.size, rejectedB] spaceB := by
    unfold labelB whatB statB
    rw [hb, hst]; rfl
  have hj := label_join p hl lengthB rejectedB (by decide) (by decide)
  rw [← hlb] at hj
  repeat' ((conv => whnf); first
    | (refine call_i (labelled_spec p) false ?_ rfl ?_; focus ((repeat' (first | exact trivial | refine And.intro ?_ ?_ | with_reducible rfl | exact (fun h => by cases h) | exact rfl)); done))
    | (exact (hd hl).elim)
    | (exfalso; omega)
    | refine branch_t hb ?_
    | (refine call_i (itoa_spec p.id (by omega) (by omega)) false ?_ rfl ?_; focus ((repeat' (first | exact trivial | refine And.intro ?_ ?_ | with_reducible rfl | exact (fun h => by cases h) | exact rfl)); done))
    | (refine call_i (itoa_spec p.par (by omega) (by omega)) false ?_ rfl ?_; focus ((repeat' (first | exact trivial | refine And.intro ?_ ?_ | with_reducible rfl | exact (fun h => by cases h) | exact rfl)); done))
    | (refine call_i (itoa_spec p.size (by omega) (by omega)) false ?_ rfl ?_; focus ((repeat' (first | exact trivial | refine And.intro ?_ ?_ | with_reducible rfl | exact (fun h => by cases h) | exact rfl)); done))
    | refine need_i (show (itoaB p.par).size + colonB.size ≤ 9223372036854775807 by have : colonB.size = 1 := rfl; omega) ?_
    | refine need_i (show shippedB.size + p.order.size ≤ 9223372036854775807 by omega) ?_
    | (refine call_i (hj) true ?_ rfl ?_; focus ((repeat' (first | exact trivial | refine And.intro ?_ ?_ | with_reducible rfl | exact (fun h => by cases h) | exact rfl)); done))
    | refine seq_go ?_
    | refine draw_i (by kernel_rfl) ?_
    | refine arith_half (by omega) ?_
    | refine arith_in (by omega) ?_
    | refine arith_u (by omega) ?_
    | refine need_i (p := (T.row _).eq = true) (by kernel_rfl) ?_
    | refine need_i (by omega) ?_
    | refine br_not ?_
    | refine br_dec (fun hd => ?_) (fun hd => ?_)
    | refine br_lt (fun hlt => ?_) (fun hlt => ?_)
    | refine br_le (fun hle => ?_) (fun hle => ?_)
    | refine br_eq (fun heq => ?_) (fun heq => ?_)
    | refine idx_map (by omega) (fun x hx => ?_)
    | refine live_i rfl (fun h => by cases h) ?_
    | refine branch_s (fun hbb => ?_) (fun hbb => ?_)
    | refine ret_i ?_)
  conv => whnf
  exact ret_two rfl rfl rfl
set_option maxHeartbeats 400000 in
theorem label_t3 (p : Pc) (hl : labelled p) (hb : p.bar = true) (hst : p.status = 3) : fnVC T Tryd.prog Tryd.f28 [pcV p] (.tup [S (labelB p), I 0]) := by
  obtain ⟨h1, h2, h3, h4, h5, h6, h7⟩ := id hl
  have k1 := h1.1; have k2 := h1.2; have k3 := h2.1; have k4 := h2.2
  have ho : p.order.size ≤ 16 := by
    rcases h7 with ⟨_, h⟩ | ⟨_, h⟩
    · rw [h]; decide
    · exact h.2.1
  have hz2 := itoaB_size p.par (by omega) (by omega)
  have hs11 : shippedB.size = 11 := rfl
  have hlb : labelB p = joinB [itoaB p.id, fromB, itoaB p.par ++ colonB, p.part, p.grade, p.heat, lengthB, itoaB p.size, (shippedB ++ p.order)] spaceB := by
    unfold labelB whatB statB
    rw [hb, hst]; rfl
  have hj := label_join p hl lengthB (shippedB ++ p.order) (by decide) (by rw [cat_size]; omega)
  rw [← hlb] at hj
  repeat' ((conv => whnf); first
    | (refine call_i (labelled_spec p) false ?_ rfl ?_; focus ((repeat' (first | exact trivial | refine And.intro ?_ ?_ | with_reducible rfl | exact (fun h => by cases h) | exact rfl)); done))
    | (exact (hd hl).elim)
    | (exfalso; omega)
    | refine branch_t hb ?_
    | (refine call_i (itoa_spec p.id (by omega) (by omega)) false ?_ rfl ?_; focus ((repeat' (first | exact trivial | refine And.intro ?_ ?_ | with_reducible rfl | exact (fun h => by cases h) | exact rfl)); done))
    | (refine call_i (itoa_spec p.par (by omega) (by omega)) false ?_ rfl ?_; focus ((repeat' (first | exact trivial | refine And.intro ?_ ?_ | with_reducible rfl | exact (fun h => by cases h) | exact rfl)); done))
    | (refine call_i (itoa_spec p.size (by omega) (by omega)) false ?_ rfl ?_; focus ((repeat' (first | exact trivial | refine And.intro ?_ ?_ | with_reducible rfl | exact (fun h => by cases h) | exact rfl)); done))
    | refine need_i (show (itoaB p.par).size + colonB.size ≤ 9223372036854775807 by have : colonB.size = 1 := rfl; omega) ?_
    | refine need_i (show shippedB.size + p.order.size ≤ 9223372036854775807 by omega) ?_
    | (refine call_i (hj) true ?_ rfl ?_; focus ((repeat' (first | exact trivial | refine And.intro ?_ ?_ | with_reducible rfl | exact (fun h => by cases h) | exact rfl)); done))
    | refine seq_go ?_
    | refine draw_i (by kernel_rfl) ?_
    | refine arith_half (by omega) ?_
    | refine arith_in (by omega) ?_
    | refine arith_u (by omega) ?_
    | refine need_i (p := (T.row _).eq = true) (by kernel_rfl) ?_
    | refine need_i (by omega) ?_
    | refine br_not ?_
    | refine br_dec (fun hd => ?_) (fun hd => ?_)
    | refine br_lt (fun hlt => ?_) (fun hlt => ?_)
    | refine br_le (fun hle => ?_) (fun hle => ?_)
    | refine br_eq (fun heq => ?_) (fun heq => ?_)
    | refine idx_map (by omega) (fun x hx => ?_)
    | refine live_i rfl (fun h => by cases h) ?_
    | refine branch_s (fun hbb => ?_) (fun hbb => ?_)
    | refine ret_i ?_)
  conv => whnf
  exact ret_two rfl rfl rfl
set_option maxHeartbeats 400000 in
theorem label_f1 (p : Pc) (hl : labelled p) (hb : p.bar = false) (hst : p.status = 1) : fnVC T Tryd.prog Tryd.f28 [pcV p] (.tup [S (labelB p), I 0]) := by
  obtain ⟨h1, h2, h3, h4, h5, h6, h7⟩ := id hl
  have k1 := h1.1; have k2 := h1.2; have k3 := h2.1; have k4 := h2.2
  have ho : p.order.size ≤ 16 := by
    rcases h7 with ⟨_, h⟩ | ⟨_, h⟩
    · rw [h]; decide
    · exact h.2.1
  have hz2 := itoaB_size p.par (by omega) (by omega)
  have hs11 : shippedB.size = 11 := rfl
  have hlb : labelB p = joinB [itoaB p.id, fromB, itoaB p.par ++ colonB, p.part, p.grade, p.heat, areaB, itoaB p.size, goodB] spaceB := by
    unfold labelB whatB statB
    rw [hb, hst]; rfl
  have hj := label_join p hl areaB goodB (by decide) (by decide)
  rw [← hlb] at hj
  repeat' ((conv => whnf); first
    | (refine call_i (labelled_spec p) false ?_ rfl ?_; focus ((repeat' (first | exact trivial | refine And.intro ?_ ?_ | with_reducible rfl | exact (fun h => by cases h) | exact rfl)); done))
    | (exact (hd hl).elim)
    | (exfalso; omega)
    | refine branch_f hb ?_
    | (refine call_i (itoa_spec p.id (by omega) (by omega)) false ?_ rfl ?_; focus ((repeat' (first | exact trivial | refine And.intro ?_ ?_ | with_reducible rfl | exact (fun h => by cases h) | exact rfl)); done))
    | (refine call_i (itoa_spec p.par (by omega) (by omega)) false ?_ rfl ?_; focus ((repeat' (first | exact trivial | refine And.intro ?_ ?_ | with_reducible rfl | exact (fun h => by cases h) | exact rfl)); done))
    | (refine call_i (itoa_spec p.size (by omega) (by omega)) false ?_ rfl ?_; focus ((repeat' (first | exact trivial | refine And.intro ?_ ?_ | with_reducible rfl | exact (fun h => by cases h) | exact rfl)); done))
    | refine need_i (show (itoaB p.par).size + colonB.size ≤ 9223372036854775807 by have : colonB.size = 1 := rfl; omega) ?_
    | refine need_i (show shippedB.size + p.order.size ≤ 9223372036854775807 by omega) ?_
    | (refine call_i (hj) true ?_ rfl ?_; focus ((repeat' (first | exact trivial | refine And.intro ?_ ?_ | with_reducible rfl | exact (fun h => by cases h) | exact rfl)); done))
    | refine seq_go ?_
    | refine draw_i (by kernel_rfl) ?_
    | refine arith_half (by omega) ?_
    | refine arith_in (by omega) ?_
    | refine arith_u (by omega) ?_
    | refine need_i (p := (T.row _).eq = true) (by kernel_rfl) ?_
    | refine need_i (by omega) ?_
    | refine br_not ?_
    | refine br_dec (fun hd => ?_) (fun hd => ?_)
    | refine br_lt (fun hlt => ?_) (fun hlt => ?_)
    | refine br_le (fun hle => ?_) (fun hle => ?_)
    | refine br_eq (fun heq => ?_) (fun heq => ?_)
    | refine idx_map (by omega) (fun x hx => ?_)
    | refine live_i rfl (fun h => by cases h) ?_
    | refine branch_s (fun hbb => ?_) (fun hbb => ?_)
    | refine ret_i ?_)
  conv => whnf
  exact ret_two rfl rfl rfl
set_option maxHeartbeats 400000 in
theorem label_f2 (p : Pc) (hl : labelled p) (hb : p.bar = false) (hst : p.status = 2) : fnVC T Tryd.prog Tryd.f28 [pcV p] (.tup [S (labelB p), I 0]) := by
  obtain ⟨h1, h2, h3, h4, h5, h6, h7⟩ := id hl
  have k1 := h1.1; have k2 := h1.2; have k3 := h2.1; have k4 := h2.2
  have ho : p.order.size ≤ 16 := by
    rcases h7 with ⟨_, h⟩ | ⟨_, h⟩
    · rw [h]; decide
    · exact h.2.1
  have hz2 := itoaB_size p.par (by omega) (by omega)
  have hs11 : shippedB.size = 11 := rfl
  have hlb : labelB p = joinB [itoaB p.id, fromB, itoaB p.par ++ colonB, p.part, p.grade, p.heat, areaB, itoaB p.size, rejectedB] spaceB := by
    unfold labelB whatB statB
    rw [hb, hst]; rfl
  have hj := label_join p hl areaB rejectedB (by decide) (by decide)
  rw [← hlb] at hj
  repeat' ((conv => whnf); first
    | (refine call_i (labelled_spec p) false ?_ rfl ?_; focus ((repeat' (first | exact trivial | refine And.intro ?_ ?_ | with_reducible rfl | exact (fun h => by cases h) | exact rfl)); done))
    | (exact (hd hl).elim)
    | (exfalso; omega)
    | refine branch_f hb ?_
    | (refine call_i (itoa_spec p.id (by omega) (by omega)) false ?_ rfl ?_; focus ((repeat' (first | exact trivial | refine And.intro ?_ ?_ | with_reducible rfl | exact (fun h => by cases h) | exact rfl)); done))
    | (refine call_i (itoa_spec p.par (by omega) (by omega)) false ?_ rfl ?_; focus ((repeat' (first | exact trivial | refine And.intro ?_ ?_ | with_reducible rfl | exact (fun h => by cases h) | exact rfl)); done))
    | (refine call_i (itoa_spec p.size (by omega) (by omega)) false ?_ rfl ?_; focus ((repeat' (first | exact trivial | refine And.intro ?_ ?_ | with_reducible rfl | exact (fun h => by cases h) | exact rfl)); done))
    | refine need_i (show (itoaB p.par).size + colonB.size ≤ 9223372036854775807 by have : colonB.size = 1 := rfl; omega) ?_
    | refine need_i (show shippedB.size + p.order.size ≤ 9223372036854775807 by omega) ?_
    | (refine call_i (hj) true ?_ rfl ?_; focus ((repeat' (first | exact trivial | refine And.intro ?_ ?_ | with_reducible rfl | exact (fun h => by cases h) | exact rfl)); done))
    | refine seq_go ?_
    | refine draw_i (by kernel_rfl) ?_
    | refine arith_half (by omega) ?_
    | refine arith_in (by omega) ?_
    | refine arith_u (by omega) ?_
    | refine need_i (p := (T.row _).eq = true) (by kernel_rfl) ?_
    | refine need_i (by omega) ?_
    | refine br_not ?_
    | refine br_dec (fun hd => ?_) (fun hd => ?_)
    | refine br_lt (fun hlt => ?_) (fun hlt => ?_)
    | refine br_le (fun hle => ?_) (fun hle => ?_)
    | refine br_eq (fun heq => ?_) (fun heq => ?_)
    | refine idx_map (by omega) (fun x hx => ?_)
    | refine live_i rfl (fun h => by cases h) ?_
    | refine branch_s (fun hbb => ?_) (fun hbb => ?_)
    | refine ret_i ?_)
  conv => whnf
  exact ret_two rfl rfl rfl
set_option maxHeartbeats 400000 in
theorem label_f3 (p : Pc) (hl : labelled p) (hb : p.bar = false) (hst : p.status = 3) : fnVC T Tryd.prog Tryd.f28 [pcV p] (.tup [S (labelB p), I 0]) := by
  obtain ⟨h1, h2, h3, h4, h5, h6, h7⟩ := id hl
  have k1 := h1.1; have k2 := h1.2; have k3 := h2.1; have k4 := h2.2
  have ho : p.order.size ≤ 16 := by
    rcases h7 with ⟨_, h⟩ | ⟨_, h⟩
    · rw [h]; decide
    · exact h.2.1
  have hz2 := itoaB_size p.par (by omega) (by omega)
  have hs11 : shippedB.size = 11 := rfl
  have hlb : labelB p = joinB [itoaB p.id, fromB, itoaB p.par ++ colonB, p.part, p.grade, p.heat, areaB, itoaB p.size, (shippedB ++ p.order)] spaceB := by
    unfold labelB whatB statB
    rw [hb, hst]; rfl
  have hj := label_join p hl areaB (shippedB ++ p.order) (by decide) (by rw [cat_size]; omega)
  rw [← hlb] at hj
  repeat' ((conv => whnf); first
    | (refine call_i (labelled_spec p) false ?_ rfl ?_; focus ((repeat' (first | exact trivial | refine And.intro ?_ ?_ | with_reducible rfl | exact (fun h => by cases h) | exact rfl)); done))
    | (exact (hd hl).elim)
    | (exfalso; omega)
    | refine branch_f hb ?_
    | (refine call_i (itoa_spec p.id (by omega) (by omega)) false ?_ rfl ?_; focus ((repeat' (first | exact trivial | refine And.intro ?_ ?_ | with_reducible rfl | exact (fun h => by cases h) | exact rfl)); done))
    | (refine call_i (itoa_spec p.par (by omega) (by omega)) false ?_ rfl ?_; focus ((repeat' (first | exact trivial | refine And.intro ?_ ?_ | with_reducible rfl | exact (fun h => by cases h) | exact rfl)); done))
    | (refine call_i (itoa_spec p.size (by omega) (by omega)) false ?_ rfl ?_; focus ((repeat' (first | exact trivial | refine And.intro ?_ ?_ | with_reducible rfl | exact (fun h => by cases h) | exact rfl)); done))
    | refine need_i (show (itoaB p.par).size + colonB.size ≤ 9223372036854775807 by have : colonB.size = 1 := rfl; omega) ?_
    | refine need_i (show shippedB.size + p.order.size ≤ 9223372036854775807 by omega) ?_
    | (refine call_i (hj) true ?_ rfl ?_; focus ((repeat' (first | exact trivial | refine And.intro ?_ ?_ | with_reducible rfl | exact (fun h => by cases h) | exact rfl)); done))
    | refine seq_go ?_
    | refine draw_i (by kernel_rfl) ?_
    | refine arith_half (by omega) ?_
    | refine arith_in (by omega) ?_
    | refine arith_u (by omega) ?_
    | refine need_i (p := (T.row _).eq = true) (by kernel_rfl) ?_
    | refine need_i (by omega) ?_
    | refine br_not ?_
    | refine br_dec (fun hd => ?_) (fun hd => ?_)
    | refine br_lt (fun hlt => ?_) (fun hlt => ?_)
    | refine br_le (fun hle => ?_) (fun hle => ?_)
    | refine br_eq (fun heq => ?_) (fun heq => ?_)
    | refine idx_map (by omega) (fun x hx => ?_)
    | refine live_i rfl (fun h => by cases h) ?_
    | refine branch_s (fun hbb => ?_) (fun hbb => ?_)
    | refine ret_i ?_)
  conv => whnf
  exact ret_two rfl rfl rfl
theorem label_vc (p : Pc) : fnVC T Tryd.prog Tryd.f28 [pcV p] (.tup [S (labelR p).1, I (labelR p).2]) := by
  by_cases hl : labelled p
  · rw [labelR_ok hl]
    have hst : p.status = 1 ∨ p.status = 2 ∨ p.status = 3 := by
      rcases hl.2.2.2.2.2.2 with ⟨h, _⟩ | ⟨h, _⟩ <;> omega
    cases hb : p.bar <;> rcases hst with hst | hst | hst
    · exact label_f1 p hl hb hst
    · exact label_f2 p hl hb hst
    · exact label_f3 p hl hb hst
    · exact label_t1 p hl hb hst
    · exact label_t2 p hl hb hst
    · exact label_t3 p hl hb hst
  · rw [labelR_no hl]
    repeat' ((conv => whnf); first
      | (refine call_i (labelled_spec p) false ?_ rfl ?_; focus ((repeat' (first | exact trivial | refine And.intro ?_ ?_ | with_reducible rfl | exact (fun h => by cases h) | exact rfl)); done))
      | (exact (hl hd).elim)
      | refine seq_go ?_
      | refine draw_i (by kernel_rfl) ?_
      | refine arith_half (by omega) ?_
      | refine arith_in (by omega) ?_
      | refine arith_u (by omega) ?_
      | refine need_i (p := (T.row _).eq = true) (by kernel_rfl) ?_
      | refine need_i (by omega) ?_
      | refine br_not ?_
      | refine br_dec (fun hd => ?_) (fun hd => ?_)
      | refine br_lt (fun hlt => ?_) (fun hlt => ?_)
      | refine br_le (fun hle => ?_) (fun hle => ?_)
      | refine br_eq (fun heq => ?_) (fun heq => ?_)
      | refine idx_map (by omega) (fun x hx => ?_)
      | refine live_i rfl (fun h => by cases h) ?_
      | refine branch_s (fun hbb => ?_) (fun hbb => ?_)
      | refine ret_i ?_)
    conv => whnf
    exact ret_two rfl rfl rfl
theorem label_spec (p : Pc) : Sp 28 [pcV p] (.tup [S (labelR p).1, I (labelR p).2]) := sp_of Tryd.func28 (by kernel_rfl) (by kernel_rfl) (label_vc p)
end Go.Proofs.Cost58
