/-
  The examples of the document, and the statement on shares, walked.
  Numerals of the reference, walked.
  Names of the reference and lists of lines, walked.
-/
import Derived.Test.YtckcanemolkncaaDoorH25
import Derived.Test.YtckcanemolkncaaDoorH24
import Derived.Test.YtckcanemolkncaaDoorH21
set_option linter.unusedVariables false
set_option linter.unusedSimpArgs false
namespace Go.Proofs.Cost58
open Go Go.Proofs Go.Ab
set_option maxRecDepth 100000

theorem share_example : shareR 10 [1, 1, 1] = ([4, 3, 3], 0) := by
  rw [shareR_ok ⟨by simp [WOk], by decide, by decide, by decide, by decide⟩]
  have : shareP 10 ([1, 1, 1] : List Int).sum [1, 1, 1] = [4, 3, 3] := by decide +kernel
  rw [this]
def p0 : Pc := { id := 2, par := 1, part := { data := #[97] }, grade := { data := #[83, 50, 51, 53] }, heat := { data := #[72, 55] }, size := 40, bar := false, status := 1, order := { data := #[] } }
def l0 : ByteArray := { data := #[50, 32, 102, 114, 111, 109, 32, 49, 58, 32, 97, 32, 83, 50, 51, 53, 32, 72, 55, 32, 97, 114, 101, 97, 32, 52, 48, 32, 103, 111, 111, 100] }
theorem name_of {s : ByteArray} (h : (decide (1 ≤ s.size) && decide (s.size ≤ 16) && (decide (97 ≤ ((s.data.toList.getD 0 0).toNat)) && decide (((s.data.toList.getD 0 0).toNat) ≤ 122) || decide (65 ≤ ((s.data.toList.getD 0 0).toNat)) && decide (((s.data.toList.getD 0 0).toNat) ≤ 90)) &&
    s.data.toList.all fun c => decide (97 ≤ c.toNat) && decide (c.toNat ≤ 122) || decide (65 ≤ c.toNat) && decide (c.toNat ≤ 90) || decide (48 ≤ c.toNat) && decide (c.toNat ≤ 57) || decide (c.toNat = 95)) = true) : isName s := by
  simp only [Bool.and_eq_true, Bool.or_eq_true, decide_eq_true_eq, List.all_eq_true] at h
  obtain ⟨⟨⟨h1, h2⟩, h3⟩, h4⟩ := h
  have hb : ∀ i, i < s.size → ∃ c ∈ s.data.toList, byteAt s i = (c.toNat : Int) ∧ s.data.toList.getD i 0 = c := by
    intro i hi
    have hi' : i < s.data.toList.length := by rw [data_len]; exact hi
    refine ⟨s.data.toList[i], List.getElem_mem hi', ?_, ?_⟩
    · unfold byteAt
      rw [show s[i]? = some (s[i]'hi) from getElem?_pos s i hi]
      rfl
    · rw [List.getD_eq_getElem?_getD, List.getElem?_eq_getElem hi']; rfl
  refine ⟨h1, h2, ?_, fun i hi => ?_⟩
  · obtain ⟨c, hc, e1, e2⟩ := hb 0 (by omega)
    rw [e2] at h3
    rw [e1]; unfold isLetter; omega
  · obtain ⟨c, hc, e1, e2⟩ := hb i hi
    have := h4 c hc
    rw [e1]; unfold isInner isLetter isDigit; omega
theorem label_example : labelR p0 = (l0, 0) := by
  have hl : labelled p0 := ⟨⟨by decide, by decide⟩, ⟨by decide, by decide⟩, name_of (by decide), name_of (by decide), name_of (by decide), ⟨by decide, by decide⟩, .inl ⟨.inl rfl, rfl⟩⟩
  rw [labelR_ok hl]
  have e1 : itoaB 2 = { data := #[50] } := by unfold itoaB Lib.itoa; simp [Lib.decDigits]
  have e2 : itoaB 1 = { data := #[49] } := by unfold itoaB Lib.itoa; simp [Lib.decDigits]
  have e3 : itoaB 40 = { data := #[52, 48] } := by unfold itoaB Lib.itoa; simp [Lib.decDigits]
  have : labelB p0 = l0 := by
    show joinB [itoaB 2, fromB, itoaB 1 ++ colonB, _, _, _, whatB p0, itoaB 40, statB p0] spaceB = l0
    rw [e1, e2, e3]
    rfl
  rw [this]

theorem awake_vc : fnVC T Tryd.prog Tryd.f10 [] (.lit (.bool true)) := by
  have hs := share_spec 10 [1, 1, 1] (by decide)
  rw [share_example] at hs
  have hl := label_spec p0
  rw [label_example] at hl
  have hr : rtOk ⟨0, 0, 0, 0, 0, 0, 0⟩ := by unfold rtOk Rt.l; simp
  repeat' ((conv => whnf); first
    | (refine call_i (hs) false ?_ rfl ?_; focus ((repeat' (first | exact trivial | refine And.intro ?_ ?_ | with_reducible rfl | exact (fun h => by cases h) | exact rfl)); done))
    | (refine call_i (hl) false ?_ rfl ?_; focus ((repeat' (first | exact trivial | refine And.intro ?_ ?_ | with_reducible rfl | exact (fun h => by cases h) | exact rfl)); done))
    | (refine call_i (sameInts_spec [4, 3, 3] [4, 3, 3] (by decide)) true ?_ rfl ?_; focus ((repeat' (first | exact trivial | refine And.intro ?_ ?_ | with_reducible rfl | exact (fun h => by cases h) | exact rfl)); done))
    | (exfalso; exact hd rfl)
    | (exfalso; exact heq rfl)
    | refine br_eqS (fun heq => ?_) (fun heq => ?_)
    | (refine call_i (valid_spec ⟨0, 0, 0, 0, 0, 0, 0⟩) false ?_ rfl ?_; focus ((repeat' (first | exact trivial | refine And.intro ?_ ?_ | with_reducible rfl | exact (fun h => by cases h) | exact rfl)); done))
    | refine seq_go ?_
    | refine draw_i (by kernel_rfl) ?_
    | refine arith_half (by omega) ?_
    | refine arith_in (by omega) ?_
    | refine arith_u (by omega) ?_
    | refine need_i (p := (T.row _).eq = true) (by kernel_rfl) ?_
    | refine need_i (by omega) ?_
    | refine br_not ?_
    | refine br_dec (fun hd => ?_) (fun hd => ?_)
    | refine br_lt (fun hlt => ?_) (fun hlt => ?_)
    | refine br_le (fun hle => ?_) (fun hle => ?_)
    | refine br_eq (fun heq => ?_) (fun heq => ?_)
    | refine idx_map (by omega) (fun x hx => ?_)
    | refine live_i rfl (fun h => by cases h) ?_
    | refine branch_s (fun hbb => ?_) (fun hbb => ?_)
    | refine ret_i ?_
    | refine retB_i ?_)
  conv => whnf
  exact ret_bool (decB_t.2 hr)
theorem awake_spec : Sp 10 [] (.lit (.bool true)) := sp_of Tryd.func10 (by kernel_rfl) (by kernel_rfl) awake_vc
end Go.Proofs.Cost58
namespace Go.Proofs.Cost58
open Go Go.Proofs Go.Ab
set_option maxRecDepth 100000

theorem arith_u8 {n : Int} {K : Int → Prop} (h : 0 ≤ n ∧ n ≤ 255) (hk : K n) : arith .u8 n K := by
  refine ⟨?_⟩
  rw [show IntKind.wrap .u8 n = n from by simp [IntKind.wrap, IntKind.signed, IntKind.bits]; omega]; exact hk
/-- a two's complement -/
theorem arith_neg {n : Int} {K : Int → Prop} (h : -9223372036854775808 ≤ n ∧ n < 0) (hk : K (n + 18446744073709551616)) : arith .u64 n K := by
  refine ⟨?_⟩
  rw [show IntKind.wrap .u64 n = n + 18446744073709551616 from by simp [IntKind.wrap, IntKind.signed, IntKind.bits]; omega]; exact hk
theorem arith_neg2 {n : Int} {K : Int → Prop} (h : 0 < n ∧ n ≤ 18446744073709551615) (hk : K (18446744073709551616 - n)) : arith .u64 (0 - n) K := by
  refine ⟨?_⟩
  rw [show IntKind.wrap .u64 (0 - n) = 18446744073709551616 - n from by simp [IntKind.wrap, IntKind.signed, IntKind.bits]; omega]; exact hk
def U64 (n : Int) : V := .lit (.int .u64 n)
/-- the digits of a positive number -/
def digB (u : Nat) : ByteArray := ⟨(Lib.decDigits u).toArray⟩
theorem bytes_ext {a b : ByteArray} (h : a.data.toList = b.data.toList) : a = b := WideShapes.bytes_inj h
theorem strOf_one (n : Int) : (strOf [n]).data.toList = [UInt8.ofNat n.toNat] := rfl
theorem cat_data (a b : ByteArray) : (a ++ b).data.toList = a.data.toList ++ b.data.toList := by simp
theorem digB_step {u : Nat} (h : 10 ≤ u) : digB u = digB (u / 10) ++ strOf [((48 + u % 10 : Nat) : Int)] := by
  apply bytes_ext
  rw [cat_data, strOf_one]
  unfold digB
  show Lib.decDigits u = Lib.decDigits (u / 10) ++ [UInt8.ofNat (48 + u % 10)]
  rw [Lib.decDigits, dif_neg (by omega)]
theorem digB_small {u : Nat} (h : u < 10) : digB u = strOf [((48 + u : Nat) : Int)] := by
  apply bytes_ext
  rw [strOf_one]
  unfold digB
  show Lib.decDigits u = [UInt8.ofNat (48 + u)]
  rw [Lib.decDigits, dif_pos h]
theorem cat_assoc (a b c : ByteArray) : a ++ b ++ c = a ++ (b ++ c) := by apply bytes_ext; simp [cat_data]
theorem cat_empty (a : ByteArray) : a ++ emptyB = a := by apply bytes_ext; rw [cat_data]; simp
theorem empty_cat (a : ByteArray) : emptyB ++ a = a := by apply bytes_ext; rw [cat_data]; simp
theorem digB_size (u : Nat) (h : u ≤ 18446744073709551615) : (digB u).size ≤ 20 := by
  show (Lib.decDigits u).toArray.size ≤ 20
  have : (Lib.decDigits u).length ≤ 20 := by
    rw [Lib.decDigits_length]
    exact Lib.nDigits_le20 u (by omega)
  simpa using this
theorem itoaB_pos {u : Nat} : itoaB u = digB u := by
  unfold itoaB digB Lib.itoa
  rw [if_neg (by omega)]; rfl
theorem itoaB_neg {u : Nat} (h : 0 < u) : itoaB (-(u : Int)) = ({ data := #[45] } : ByteArray) ++ digB u := by
  apply bytes_ext
  rw [cat_data]
  unfold itoaB digB Lib.itoa
  rw [if_pos (by omega)]
  show 45 :: Lib.decDigits (-(u : Int)).natAbs = [45] ++ Lib.decDigits u
  rw [show (-(u : Int)).natAbs = u by omega]; rfl
/-- the loop over the digits -/
def DigI (u0 u : Nat) (s : ByteArray) : Prop := (0 < u → digB u ++ s = digB u0) ∧ (u = 0 → s = digB u0) ∧ u ≤ u0
theorem digI_size {u0 u : Nat} {s : ByteArray} (h0 : u0 ≤ 9223372036854775808) (h : DigI u0 u s) : s.size ≤ 20 := by
  have hz := digB_size u0 (by omega)
  rcases Nat.eq_zero_or_pos u with e | hp
  · rw [h.2.1 e]; exact hz
  · have := congrArg ByteArray.size (h.1 hp)
    rw [cat_size] at this; omega
theorem digI_step {u0 u : Nat} {s : ByteArray} (hp : 0 < u) (h : DigI u0 u s) : DigI u0 (u / 10) (strOf [((48 + u % 10 : Nat) : Int)] ++ s) := by
  refine ⟨fun h1 => ?_, fun h1 => ?_, by have := h.2.2; omega⟩
  · rw [← cat_assoc, ← digB_step (by omega)]; exact h.1 hp
  · rw [← h.1 hp, digB_small (by omega), show u % 10 = u by omega]
theorem ritoa_vc (n : Int) (h0 : -9223372036854775808 ≤ n) (h1 : n ≤ 9223372036854775807) : fnVC T Tryd.prog Tryd.f44 [I n] (S (itoaB n)) := by
  rcases Int.lt_trichotomy n 0 with hneg | rfl | hpos
  · obtain ⟨u0, rfl⟩ : ∃ u : Nat, n = -(u : Int) := ⟨n.natAbs, by omega⟩
    have hp0 : 0 < u0 := by omega
    repeat' ((conv => whnf); first
      | (exfalso; omega)
      | refine arith_neg ⟨h0, hneg⟩ ?_
      | refine arith_neg2 (by omega) ?_
      | refine seq_go ?_
      | refine draw_i (by kernel_rfl) ?_
      | refine arith_half (by omega) ?_
      | refine arith_in (by omega) ?_
      | refine arith_u (by omega) ?_
      | refine need_i (p := (T.row _).eq = true) (by kernel_rfl) ?_
      | refine need_i (by omega) ?_
      | refine br_not ?_
      | refine br_dec (fun hd => ?_) (fun hd => ?_)
      | refine br_lt (fun hlt => ?_) (fun hlt => ?_)
      | refine br_le (fun hle => ?_) (fun hle => ?_)
      | refine br_eq (fun heq => ?_) (fun heq => ?_)
      | refine idx_map (by omega) (fun x hx => ?_)
      | refine live_i rfl (fun h => by cases h) ?_
      | refine branch_s (fun hbb => ?_) (fun hbb => ?_)
      | refine ret_i ?_
      | refine retB_i ?_)
    rw [show (18446744073709551616 : Int) - (-(u0 : Int) + 18446744073709551616) = u0 by omega]
    refine loop_2 (A := Nat) (B := ByteArray) (fun u s => mkSt [(3, U64 u), (4, S ({ data := #[45] } : ByteArray)), (5, S s)] [] []) (fun u s => DigI u0 u s) (fun u s => u) u0 emptyB ?_ ⟨fun _ => cat_empty _, fun e => by omega, Nat.le_refl _⟩ (fun u s hp => ?_)
    · refine le_mk ?_ ?_ ?_ ?_
      all_goals repeat' (first | exact trivial | refine And.intro ?_ ?_ | with_reducible rfl | exact Nat.le_refl _ | omega | exact rfl)
    · have hz := digI_size (by omega) (show DigI u0 u s from hp)
      have hu := (show DigI u0 u s from hp).2.2
      have hm : (u : Int).tmod 10 = ((u % 10 : Nat) : Int) := by rw [Int.tmod_eq_emod_of_nonneg (by omega)]; omega
      have hd : (u : Int).tdiv 10 = ((u / 10 : Nat) : Int) := by rw [Int.tdiv_eq_ediv_of_nonneg (by omega)]; omega
      have hs1 : (strOf [48 + (u : Int).tmod 10]).size = 1 := rfl
      have hsg : ByteArray.size ({ data := #[45] } : ByteArray) ≤ 1 := by decide
      rcases Nat.eq_zero_or_pos u with rfl | hup
      · have hs := (show DigI u0 0 s from hp).2.1 rfl
        have hz2 := digB_size u0 (by omega)
        repeat' ((conv => whnf); first
          | (exfalso; omega)
          | refine need_i (show ByteArray.size ({ data := #[45] } : ByteArray) + s.size ≤ 9223372036854775807 by omega) ?_
          | refine seq_go ?_
          | refine draw_i (by kernel_rfl) ?_
          | refine arith_half (by omega) ?_
          | refine arith_in (by omega) ?_
          | refine arith_u (by omega) ?_
          | refine need_i (p := (T.row _).eq = true) (by kernel_rfl) ?_
          | refine need_i (by omega) ?_
          | refine br_not ?_
          | refine br_dec (fun hd => ?_) (fun hd => ?_)
          | refine br_lt (fun hlt => ?_) (fun hlt => ?_)
          | refine br_le (fun hle => ?_) (fun hle => ?_)
          | refine br_eq (fun heq => ?_) (fun heq => ?_)
          | refine idx_map (by omega) (fun x hx => ?_)
          | refine live_i rfl (fun h => by cases h) ?_
          | refine branch_s (fun hbb => ?_) (fun hbb => ?_)
          | refine ret_i ?_
          | refine retB_i ?_)
        conv => whnf
        refine ret_lit ?_
        show Value.string (({ data := #[45] } : ByteArray) ++ s) = _
        rw [hs, itoaB_neg hp0]
      · repeat' ((conv => whnf); first
          | (exfalso; omega)
          | refine arith_u (show 0 ≤ 48 + (u : Int).tmod 10 ∧ 48 + (u : Int).tmod 10 ≤ 18446744073709551615 by omega) ?_
          | refine arith_u8 (show 0 ≤ 48 + (u : Int).tmod 10 ∧ 48 + (u : Int).tmod 10 ≤ 255 by omega) ?_
          | refine bytes_i [48 + (u : Int).tmod 10] rfl ?_
          | refine need_i (show (strOf [48 + (u : Int).tmod 10]).size + s.size ≤ 9223372036854775807 by omega) ?_
          | refine arith_u (show 0 ≤ (u : Int).tdiv 10 ∧ (u : Int).tdiv 10 ≤ 18446744073709551615 by omega) ?_
          | refine seq_go ?_
          | refine draw_i (by kernel_rfl) ?_
          | refine arith_half (by omega) ?_
          | refine arith_in (by omega) ?_
          | refine arith_u (by omega) ?_
          | refine need_i (p := (T.row _).eq = true) (by kernel_rfl) ?_
          | refine need_i (by omega) ?_
          | refine br_not ?_
          | refine br_dec (fun hd => ?_) (fun hd => ?_)
          | refine br_lt (fun hlt => ?_) (fun hlt => ?_)
          | refine br_le (fun hle => ?_) (fun hle => ?_)
          | refine br_eq (fun heq => ?_) (fun heq => ?_)
          | refine idx_map (by omega) (fun x hx => ?_)
          | refine live_i rfl (fun h => by cases h) ?_
          | refine branch_s (fun hbb => ?_) (fun hbb => ?_)
          | refine ret_i ?_
          | refine retB_i ?_)
        conv => whnf
        refine ⟨(u / 10, strOf [((48 + u % 10 : Nat) : Int)] ++ s), ?_, digI_step hup hp, by show u / 10 < u; omega⟩
        refine le_mk ?_ ?_ ?_ ?_
        all_goals repeat' (first | exact trivial | refine And.intro ?_ ?_ | with_reducible rfl | exact Nat.le_refl _ | omega | exact rfl)
  · repeat' ((conv => whnf); first
      | (exfalso; exact heq rfl)
      | refine seq_go ?_
      | refine draw_i (by kernel_rfl) ?_
      | refine arith_half (by omega) ?_
      | refine arith_in (by omega) ?_
      | refine arith_u (by omega) ?_
      | refine need_i (p := (T.row _).eq = true) (by kernel_rfl) ?_
      | refine need_i (by omega) ?_
      | refine br_not ?_
      | refine br_dec (fun hd => ?_) (fun hd => ?_)
      | refine br_lt (fun hlt => ?_) (fun hlt => ?_)
      | refine br_le (fun hle => ?_) (fun hle => ?_)
      | refine br_eq (fun heq => ?_) (fun heq => ?_)
      | refine idx_map (by omega) (fun x hx => ?_)
      | refine live_i rfl (fun h => by cases h) ?_
      | refine branch_s (fun hbb => ?_) (fun hbb => ?_)
      | refine ret_i ?_
      | refine retB_i ?_)
    conv => whnf
    refine ret_lit ?_
    have : itoaB 0 = { data := #[48] } := by unfold itoaB Lib.itoa; simp [Lib.decDigits]
    rw [this]
  · obtain ⟨u0, rfl⟩ : ∃ u : Nat, n = (u : Int) := ⟨n.toNat, by omega⟩
    have hp0 : 0 < u0 := by omega
    repeat' ((conv => whnf); first
      | (exfalso; omega)
      | refine seq_go ?_
      | refine draw_i (by kernel_rfl) ?_
      | refine arith_half (by omega) ?_
      | refine arith_in (by omega) ?_
      | refine arith_u (by omega) ?_
      | refine need_i (p := (T.row _).eq = true) (by kernel_rfl) ?_
      | refine need_i (by omega) ?_
      | refine br_not ?_
      | refine br_dec (fun hd => ?_) (fun hd => ?_)
      | refine br_lt (fun hlt => ?_) (fun hlt => ?_)
      | refine br_le (fun hle => ?_) (fun hle => ?_)
      | refine br_eq (fun heq => ?_) (fun heq => ?_)
      | refine idx_map (by omega) (fun x hx => ?_)
      | refine live_i rfl (fun h => by cases h) ?_
      | refine branch_s (fun hbb => ?_) (fun hbb => ?_)
      | refine ret_i ?_
      | refine retB_i ?_)
    refine loop_2 (A := Nat) (B := ByteArray) (fun u s => mkSt [(3, U64 u), (4, S emptyB), (5, S s)] [] []) (fun u s => DigI u0 u s) (fun u s => u) u0 emptyB ?_ ⟨fun _ => cat_empty _, fun e => by omega, Nat.le_refl _⟩ (fun u s hp => ?_)
    · refine le_mk ?_ ?_ ?_ ?_
      all_goals repeat' (first | exact trivial | refine And.intro ?_ ?_ | with_reducible rfl | exact Nat.le_refl _ | omega | exact rfl)
    · have hz := digI_size (by omega) (show DigI u0 u s from hp)
      have hu := (show DigI u0 u s from hp).2.2
      have hm : (u : Int).tmod 10 = ((u % 10 : Nat) : Int) := by rw [Int.tmod_eq_emod_of_nonneg (by omega)]; omega
      have hd : (u : Int).tdiv 10 = ((u / 10 : Nat) : Int) := by rw [Int.tdiv_eq_ediv_of_nonneg (by omega)]; omega
      have hs1 : (strOf [48 + (u : Int).tmod 10]).size = 1 := rfl
      have hsg : ByteArray.size emptyB ≤ 1 := by decide
      rcases Nat.eq_zero_or_pos u with rfl | hup
      · have hs := (show DigI u0 0 s from hp).2.1 rfl
        have hz2 := digB_size u0 (by omega)
        repeat' ((conv => whnf); first
          | (exfalso; omega)
          | refine need_i (show ByteArray.size emptyB + s.size ≤ 9223372036854775807 by omega) ?_
          | refine seq_go ?_
          | refine draw_i (by kernel_rfl) ?_
          | refine arith_half (by omega) ?_
          | refine arith_in (by omega) ?_
          | refine arith_u (by omega) ?_
          | refine need_i (p := (T.row _).eq = true) (by kernel_rfl) ?_
          | refine need_i (by omega) ?_
          | refine br_not ?_
          | refine br_dec (fun hd => ?_) (fun hd => ?_)
          | refine br_lt (fun hlt => ?_) (fun hlt => ?_)
          | refine br_le (fun hle => ?_) (fun hle => ?_)
          | refine br_eq (fun heq => ?_) (fun heq => ?_)
          | refine idx_map (by omega) (fun x hx => ?_)
          | refine live_i rfl (fun h => by cases h) ?_
          | refine branch_s (fun hbb => ?_) (fun hbb => ?_)
          | refine ret_i ?_
          | refine retB_i ?_)
        conv => whnf
        refine ret_lit ?_
        show Value.string (emptyB ++ s) = _
        rw [hs, empty_cat, itoaB_pos]
      · repeat' ((conv => whnf); first
          | (exfalso; omega)
          | refine arith_u (show 0 ≤ 48 + (u : Int).tmod 10 ∧ 48 + (u : Int).tmod 10 ≤ 18446744073709551615 by omega) ?_
          | refine arith_u8 (show 0 ≤ 48 + (u : Int).tmod 10 ∧ 48 + (u : Int).tmod 10 ≤ 255 by omega) ?_
          | refine bytes_i [48 + (u : Int).tmod 10] rfl ?_
          | refine need_i (show (strOf [48 + (u : Int).tmod 10]).size + s.size ≤ 9223372036854775807 by omega) ?_
          | refine arith_u (show 0 ≤ (u : Int).tdiv 10 ∧ (u : Int).tdiv 10 ≤ 18446744073709551615 by omega) ?_
          | refine seq_go ?_
          | refine draw_i (by kernel_rfl) ?_
          | refine arith_half (by omega) ?_
          | refine arith_in (by omega) ?_
          | refine arith_u (by omega) ?_
          | refine need_i (p := (T.row _).eq = true) (by kernel_rfl) ?_
          | refine need_i (by omega) ?_
          | refine br_not ?_
          | refine br_dec (fun hd => ?_) (fun hd => ?_)
          | refine br_lt (fun hlt => ?_) (fun hlt => ?_)
          | refine br_le (fun hle => ?_) (fun hle => ?_)
          | refine br_eq (fun heq => ?_) (fun heq => ?_)
          | refine idx_map (by omega) (fun x hx => ?_)
          | refine live_i rfl (fun h => by cases h) ?_
          | refine branch_s (fun hbb => ?_) (fun hbb => ?_)
          | refine ret_i ?_
          | refine retB_i ?_)
        conv => whnf
        refine ⟨(u / 10, strOf [((48 + u % 10 : Nat) : Int)] ++ s), ?_, digI_step hup hp, by show u / 10 < u; omega⟩
        refine le_mk ?_ ?_ ?_ ?_
        all_goals repeat' (first | exact trivial | refine And.intro ?_ ?_ | with_reducible rfl | exact Nat.le_refl _ | omega | exact rfl)
theorem ritoa_spec (n : Int) (h0 : -9223372036854775808 ≤ n) (h1 : n ≤ 9223372036854775807) : Sp 44 [I n] (S (itoaB n)) := sp_of Tryd.func44 (by kernel_rfl) (by kernel_rfl) (ritoa_vc n h0 h1)
end Go.Proofs.Cost58
namespace Go.Proofs.Cost58
open Go Go.Proofs Go.Ab
set_option maxRecDepth 100000

theorem rletter_vc (c : Int) : fnVC T Tryd.prog Tryd.f55 [U c] (.lit (.bool (decB (isLetter c)))) := by
  repeat' ((conv => whnf); first
    | refine seq_go ?_
    | refine draw_i (by kernel_rfl) ?_
    | refine arith_half (by omega) ?_
    | refine arith_in (by omega) ?_
    | refine arith_u (by omega) ?_
    | refine need_i (p := (T.row _).eq = true) (by kernel_rfl) ?_
    | refine need_i (by omega) ?_
    | refine br_not ?_
    | refine br_dec (fun hd => ?_) (fun hd => ?_)
    | refine br_lt (fun hlt => ?_) (fun hlt => ?_)
    | refine br_le (fun hle => ?_) (fun hle => ?_)
    | refine br_eq (fun heq => ?_) (fun heq => ?_)
    | refine idx_map (by omega) (fun x hx => ?_)
    | refine live_i rfl (fun h => by cases h) ?_
    | refine branch_s (fun hbb => ?_) (fun hbb => ?_)
    | refine ret_i ?_
    | refine retB_i ?_)
  all_goals (conv => whnf)
  all_goals refine ret_boolD ?_
  all_goals first
    | exact dec_ret (by unfold isLetter; omega)
    | (refine le_dec ?_; unfold isLetter; omega)
    | exact dec_retf (by unfold isLetter; omega)
theorem rletter_spec (c : Int) : Sp 55 [U c] (.lit (.bool (decB (isLetter c)))) := sp_of Tryd.func55 (by kernel_rfl) (by kernel_rfl) (rletter_vc c)
theorem rdigit_vc (c : Int) : fnVC T Tryd.prog Tryd.f87 [U c] (.lit (.bool (decB (isDigit c)))) := by
  repeat' ((conv => whnf); first
    | refine seq_go ?_
    | refine draw_i (by kernel_rfl) ?_
    | refine arith_half (by omega) ?_
    | refine arith_in (by omega) ?_
    | refine arith_u (by omega) ?_
    | refine need_i (p := (T.row _).eq = true) (by kernel_rfl) ?_
    | refine need_i (by omega) ?_
    | refine br_not ?_
    | refine br_dec (fun hd => ?_) (fun hd => ?_)
    | refine br_lt (fun hlt => ?_) (fun hlt => ?_)
    | refine br_le (fun hle => ?_) (fun hle => ?_)
    | refine br_eq (fun heq => ?_) (fun heq => ?_)
    | refine idx_map (by omega) (fun x hx => ?_)
    | refine live_i rfl (fun h => by cases h) ?_
    | refine branch_s (fun hbb => ?_) (fun hbb => ?_)
    | refine ret_i ?_
    | refine retB_i ?_)
  all_goals (conv => whnf)
  all_goals refine ret_boolD ?_
  all_goals first
    | (refine le_dec ?_; unfold isDigit; omega)
    | exact dec_retf (by unfold isDigit; omega)
theorem rdigit_spec (c : Int) : Sp 87 [U c] (.lit (.bool (decB (isDigit c)))) := sp_of Tryd.func87 (by kernel_rfl) (by kernel_rfl) (rdigit_vc c)
theorem rnamed_vc (s : ByteArray) (hs : s.size ≤ 1000000000) : fnVC T Tryd.prog Tryd.f56 [S s, I 0] (I (whS isInner s 0)) := by
  repeat' ((conv => whnf); first
    | refine seq_go ?_
    | refine draw_i (by kernel_rfl) ?_
    | refine arith_half (by omega) ?_
    | refine arith_in (by omega) ?_
    | refine arith_u (by omega) ?_
    | refine need_i (p := (T.row _).eq = true) (by kernel_rfl) ?_
    | refine need_i (by omega) ?_
    | refine br_not ?_
    | refine br_dec (fun hd => ?_) (fun hd => ?_)
    | refine br_lt (fun hlt => ?_) (fun hlt => ?_)
    | refine br_le (fun hle => ?_) (fun hle => ?_)
    | refine br_eq (fun heq => ?_) (fun heq => ?_)
    | refine idx_map (by omega) (fun x hx => ?_)
    | refine live_i rfl (fun h => by cases h) ?_
    | refine branch_s (fun hbb => ?_) (fun hbb => ?_)
    | refine ret_i ?_
    | refine retB_i ?_)
  refine loop_i (A := Nat) (fun k => mkSt [(0, S s), (1, I 0), (5, I k)] [] []) (fun k => k ≤ s.size ∧ whS isInner s k = whS isInner s 0) (fun k => s.size - k) 0 ?_ ⟨Nat.zero_le _, rfl⟩ (fun k hk => ?_)
  · refine le_mk ?_ ?_ ?_ ?_
    all_goals repeat' (first | exact trivial | refine And.intro ?_ ?_ | with_reducible rfl | exact Nat.le_refl _ | omega | exact rfl)
  · obtain ⟨hkz, hk⟩ := hk
    rcases Nat.lt_or_ge k s.size with hlt | hge
    · obtain ⟨f, hf⟩ : ∃ f, s.size - k = f + 1 := ⟨s.size - k - 1, by omega⟩
      have hks : whS isInner s k = wh (fun j => decB (isInner (byteAt s j))) (f + 1) k := by unfold whS; rw [hf]
      have hix : ((0 : Int) + k).toNat = k := by omega
      have hget : byteAt s ((0 : Int) + k).toNat = byteAt s k := by rw [hix]
      have cont : isInner (byteAt s k) → whS isInner s (k + 1) = whS isInner s 0 := fun h => by
        rw [← hk, hks, wh_step (decB_t.2 h)]
        unfold whS
        rw [show s.size - (k + 1) = f by omega]
      have stop : ¬ isInner (byteAt s k) → (k : Int) = whS isInner s 0 := fun h => by
        rw [← hk, hks, wh_stop (decB_f.2 h)]
      repeat' ((conv => whnf); first
        | (exfalso; omega)
        | (refine call_i (rletter_spec (byteAt s ((0 : Int) + k).toNat)) false ?_ rfl ?_; focus ((repeat' (first | exact trivial | refine And.intro ?_ ?_ | with_reducible rfl | exact (fun h => by cases h) | exact rfl)); done))
        | (refine call_i (rdigit_spec (byteAt s ((0 : Int) + k).toNat)) false ?_ rfl ?_; focus ((repeat' (first | exact trivial | refine And.intro ?_ ?_ | with_reducible rfl | exact (fun h => by cases h) | exact rfl)); done))
        | refine seq_go ?_
        | refine draw_i (by kernel_rfl) ?_
        | refine arith_half (by omega) ?_
        | refine arith_in (by omega) ?_
        | refine arith_u (by omega) ?_
        | refine need_i (p := (T.row _).eq = true) (by kernel_rfl) ?_
        | refine need_i (by omega) ?_
        | refine br_not ?_
        | refine br_dec (fun hd => ?_) (fun hd => ?_)
        | refine br_lt (fun hlt => ?_) (fun hlt => ?_)
        | refine br_le (fun hle => ?_) (fun hle => ?_)
        | refine br_eq (fun heq => ?_) (fun heq => ?_)
        | refine idx_map (by omega) (fun x hx => ?_)
        | refine live_i rfl (fun h => by cases h) ?_
        | refine branch_s (fun hbb => ?_) (fun hbb => ?_)
        | refine ret_i ?_
        | refine retB_i ?_)
      all_goals rw [hget] at *
      · conv => whnf
        refine ⟨k + 1, ?_, ⟨by omega, cont (.inl hd)⟩, by omega⟩
        refine le_mk ?_ ?_ ?_ ?_
        all_goals repeat' (first | exact trivial | refine And.intro ?_ ?_ | with_reducible rfl | exact Nat.le_refl _ | omega | exact rfl)
      · conv => whnf
        refine ⟨k + 1, ?_, ⟨by omega, cont (.inr (.inl hd))⟩, by omega⟩
        refine le_mk ?_ ?_ ?_ ?_
        all_goals repeat' (first | exact trivial | refine And.intro ?_ ?_ | with_reducible rfl | exact Nat.le_refl _ | omega | exact rfl)
      · conv => whnf
        refine ⟨k + 1, ?_, ⟨by omega, cont (.inr (.inr heq))⟩, by omega⟩
        refine le_mk ?_ ?_ ?_ ?_
        all_goals repeat' (first | exact trivial | refine And.intro ?_ ?_ | with_reducible rfl | exact Nat.le_refl _ | omega | exact rfl)
      · conv => whnf
        refine ret_int (stop ?_)
        rename_i h1
        rintro (h | h | h)
        · exact h1 h
        · exact hd h
        · exact heq h
    · have hks : whS isInner s k = k := by unfold whS; rw [show s.size - k = 0 by omega]; rfl
      repeat' ((conv => whnf); first
        | (exfalso; omega)
        | refine seq_go ?_
        | refine draw_i (by kernel_rfl) ?_
        | refine arith_half (by omega) ?_
        | refine arith_in (by omega) ?_
        | refine arith_u (by omega) ?_
        | refine need_i (p := (T.row _).eq = true) (by kernel_rfl) ?_
        | refine need_i (by omega) ?_
        | refine br_not ?_
        | refine br_dec (fun hd => ?_) (fun hd => ?_)
        | refine br_lt (fun hlt => ?_) (fun hlt => ?_)
        | refine br_le (fun hle => ?_) (fun hle => ?_)
        | refine br_eq (fun heq => ?_) (fun heq => ?_)
        | refine idx_map (by omega) (fun x hx => ?_)
        | refine live_i rfl (fun h => by cases h) ?_
        | refine branch_s (fun hbb => ?_) (fun hbb => ?_)
        | refine ret_i ?_
        | refine retB_i ?_)
      conv => whnf
      refine ret_int ?_
      rw [← hk, hks]
theorem rnamed_spec (s : ByteArray) (hs : s.size ≤ 1000000000) : Sp 56 [S s, I 0] (I (whS isInner s 0)) := sp_of Tryd.func56 (by kernel_rfl) (by kernel_rfl) (rnamed_vc s hs)
theorem rname_vc (s : ByteArray) : fnVC T Tryd.prog Tryd.f25 [S s] (.lit (.bool (decB (isName s)))) := by
  rcases Nat.lt_or_ge 16 s.size with hbig | hsm
  · repeat' ((conv => whnf); first
      | (exfalso; omega)
      | refine seq_go ?_
      | refine draw_i (by kernel_rfl) ?_
      | refine arith_half (by omega) ?_
      | refine arith_in (by omega) ?_
      | refine arith_u (by omega) ?_
      | refine need_i (p := (T.row _).eq = true) (by kernel_rfl) ?_
      | refine need_i (by omega) ?_
      | refine br_not ?_
      | refine br_dec (fun hd => ?_) (fun hd => ?_)
      | refine br_lt (fun hlt => ?_) (fun hlt => ?_)
      | refine br_le (fun hle => ?_) (fun hle => ?_)
      | refine br_eq (fun heq => ?_) (fun heq => ?_)
      | refine idx_map (by omega) (fun x hx => ?_)
      | refine live_i rfl (fun h => by cases h) ?_
      | refine branch_s (fun hbb => ?_) (fun hbb => ?_)
      | refine ret_i ?_
      | refine retB_i ?_)
    all_goals (conv => whnf)
    all_goals refine ret_boolD ?_
    all_goals exact dec_retf (fun h => by have := h.2.1; omega)
  · repeat' ((conv => whnf); first
      | refine need_str ⟨by omega, by omega⟩ ?_
      | (refine call_i (rletter_spec (byteAt s 0)) false ?_ rfl ?_; focus ((repeat' (first | exact trivial | refine And.intro ?_ ?_ | with_reducible rfl | exact (fun h => by cases h) | exact rfl)); done))
      | (refine call_i (rnamed_spec s (by omega)) false ?_ rfl ?_; focus ((repeat' (first | exact trivial | refine And.intro ?_ ?_ | with_reducible rfl | exact (fun h => by cases h) | exact rfl)); done))
      | (exfalso; omega)
      | refine seq_go ?_
      | refine draw_i (by kernel_rfl) ?_
      | refine arith_half (by omega) ?_
      | refine arith_in (by omega) ?_
      | refine arith_u (by omega) ?_
      | refine need_i (p := (T.row _).eq = true) (by kernel_rfl) ?_
      | refine need_i (by omega) ?_
      | refine br_not ?_
      | refine br_dec (fun hd => ?_) (fun hd => ?_)
      | refine br_lt (fun hlt => ?_) (fun hlt => ?_)
      | refine br_le (fun hle => ?_) (fun hle => ?_)
      | refine br_eq (fun heq => ?_) (fun heq => ?_)
      | refine idx_map (by omega) (fun x hx => ?_)
      | refine live_i rfl (fun h => by cases h) ?_
      | refine branch_s (fun hbb => ?_) (fun hbb => ?_)
      | refine ret_i ?_
      | refine retB_i ?_)
    · conv => whnf
      refine ret_boolD (eq_dec ?_)
      have hw := wh_all (fun j => decB (isInner (byteAt s j))) s.size 0
      have hs0 : whS isInner s 0 = wh (fun j => decB (isInner (byteAt s j))) s.size 0 := rfl
      rw [← hs0, Nat.zero_add] at hw
      have e : (((whS isInner s 0 : Nat) : Int) = (s.size : Int)) ↔ whS isInner s 0 = s.size := by omega
      show (((whS isInner s 0 : Nat) : Int) = (s.size : Int)) ↔ _
      rw [e, hw]
      constructor
      · intro h
        exact ⟨by omega, hsm, hd, fun i hi => decB_t.1 (h i (Nat.zero_le _) (by omega))⟩
      · intro h j _ hj
        exact decB_t.2 (h.2.2.2 j (by omega))
    · conv => whnf
      exact ret_boolD (dec_retf (fun h => hd h.2.2.1))
    · conv => whnf
      exact ret_boolD (dec_retf (fun h => by have := h.1; omega))
theorem rname_spec (s : ByteArray) : Sp 25 [S s] (.lit (.bool (decB (isName s)))) := sp_of Tryd.func25 (by kernel_rfl) (by kernel_rfl) (rname_vc s)

theorem sameLines_vc (a b : List ByteArray) (ha : a.length ≤ 1000000) : fnVC T Tryd.prog Tryd.f16 [.sl (a.map S), .sl (b.map S)] (.lit (.bool (decB (a = b)))) := by
  have hla : (a.map S).length = a.length := by simp
  have hlb : (b.map S).length = b.length := by simp
  rcases Nat.lt_trichotomy a.length b.length with hl | hl | hl
  · repeat' ((conv => whnf); first
      | (exfalso; omega)
      | refine seq_go ?_
      | refine draw_i (by kernel_rfl) ?_
      | refine arith_half (by omega) ?_
      | refine arith_in (by omega) ?_
      | refine arith_u (by omega) ?_
      | refine need_i (p := (T.row _).eq = true) (by kernel_rfl) ?_
      | refine need_i (by omega) ?_
      | refine br_not ?_
      | refine br_dec (fun hd => ?_) (fun hd => ?_)
      | refine br_lt (fun hlt => ?_) (fun hlt => ?_)
      | refine br_le (fun hle => ?_) (fun hle => ?_)
      | refine br_eq (fun heq => ?_) (fun heq => ?_)
      | refine idx_map (by omega) (fun x hx => ?_)
      | refine live_i rfl (fun h => by cases h) ?_
      | refine branch_s (fun hbb => ?_) (fun hbb => ?_)
      | refine ret_i ?_
      | refine retB_i ?_)
    conv => whnf
    exact ret_boolD (dec_retf (fun h => by rw [h] at hl; omega))
  · repeat' ((conv => whnf); first
      | (exfalso; omega)
      | refine seq_go ?_
      | refine draw_i (by kernel_rfl) ?_
      | refine arith_half (by omega) ?_
      | refine arith_in (by omega) ?_
      | refine arith_u (by omega) ?_
      | refine need_i (p := (T.row _).eq = true) (by kernel_rfl) ?_
      | refine need_i (by omega) ?_
      | refine br_not ?_
      | refine br_dec (fun hd => ?_) (fun hd => ?_)
      | refine br_lt (fun hlt => ?_) (fun hlt => ?_)
      | refine br_le (fun hle => ?_) (fun hle => ?_)
      | refine br_eq (fun heq => ?_) (fun heq => ?_)
      | refine idx_map (by omega) (fun x hx => ?_)
      | refine live_i rfl (fun h => by cases h) ?_
      | refine branch_s (fun hbb => ?_) (fun hbb => ?_)
      | refine ret_i ?_
      | refine retB_i ?_)
    refine loop_i (A := Nat) (fun k => mkSt [(0, .sl (a.map S)), (1, .sl (b.map S)), (5, I k)] [] []) (fun k => k ≤ a.length ∧ ∀ i, i < k → a[i]? = b[i]?) (fun k => a.length - k) 0 ?_ ⟨Nat.zero_le _, fun i hi => by omega⟩ (fun k hk => ?_)
    · refine le_mk ?_ ?_ ?_ ?_
      all_goals repeat' (first | exact trivial | refine And.intro ?_ ?_ | with_reducible rfl | exact Nat.le_refl _ | omega | exact rfl)
    · obtain ⟨hk1, hk2⟩ := hk
      rcases Nat.lt_or_ge k a.length with hka | hka
      · repeat' ((conv => whnf); first
          | (exfalso; omega)
          | refine need_len (l := a) (by omega) ?_
          | refine need_len (l := b) (by omega) ?_
          | refine idx_get (f := S) (l := a) (by omega) ?_
          | refine idx_get (f := S) (l := b) (by omega) ?_
          | refine br_eqS (fun heq => ?_) (fun heq => ?_)
          | refine seq_go ?_
          | refine draw_i (by kernel_rfl) ?_
          | refine arith_half (by omega) ?_
          | refine arith_in (by omega) ?_
          | refine arith_u (by omega) ?_
          | refine need_i (p := (T.row _).eq = true) (by kernel_rfl) ?_
          | refine need_i (by omega) ?_
          | refine br_not ?_
          | refine br_dec (fun hd => ?_) (fun hd => ?_)
          | refine br_lt (fun hlt => ?_) (fun hlt => ?_)
          | refine br_le (fun hle => ?_) (fun hle => ?_)
          | refine br_eq (fun heq => ?_) (fun heq => ?_)
          | refine idx_map (by omega) (fun x hx => ?_)
          | refine live_i rfl (fun h => by cases h) ?_
          | refine branch_s (fun hbb => ?_) (fun hbb => ?_)
          | refine ret_i ?_
          | refine retB_i ?_)
        · conv => whnf
          refine ⟨k + 1, ?_, ⟨by omega, fun i hi => ?_⟩, by omega⟩
          · refine le_mk ?_ ?_ ?_ ?_
            all_goals repeat' (first | exact trivial | refine And.intro ?_ ?_ | with_reducible rfl | exact Nat.le_refl _ | omega | exact rfl)
          · rcases Nat.lt_or_ge i k with h | h
            · exact hk2 i h
            · obtain rfl : i = k := by omega
              rw [List.getElem?_eq_getElem hka, List.getElem?_eq_getElem (by omega)]
              exact congrArg some heq
        · conv => whnf
          refine ret_boolD (dec_retf (fun h => heq ?_))
          subst h; rfl
      · repeat' ((conv => whnf); first
          | (exfalso; omega)
          | refine seq_go ?_
          | refine draw_i (by kernel_rfl) ?_
          | refine arith_half (by omega) ?_
          | refine arith_in (by omega) ?_
          | refine arith_u (by omega) ?_
          | refine need_i (p := (T.row _).eq = true) (by kernel_rfl) ?_
          | refine need_i (by omega) ?_
          | refine br_not ?_
          | refine br_dec (fun hd => ?_) (fun hd => ?_)
          | refine br_lt (fun hlt => ?_) (fun hlt => ?_)
          | refine br_le (fun hle => ?_) (fun hle => ?_)
          | refine br_eq (fun heq => ?_) (fun heq => ?_)
          | refine idx_map (by omega) (fun x hx => ?_)
          | refine live_i rfl (fun h => by cases h) ?_
          | refine branch_s (fun hbb => ?_) (fun hbb => ?_)
          | refine ret_i ?_
          | refine retB_i ?_)
        conv => whnf
        refine ret_boolD (dec_ret ?_)
        apply List.ext_getElem?
        intro i
        rcases Nat.lt_or_ge i k with h | h
        · exact hk2 i h
        · rw [List.getElem?_eq_none (by omega), List.getElem?_eq_none (by omega)]
  · repeat' ((conv => whnf); first
      | (exfalso; omega)
      | refine seq_go ?_
      | refine draw_i (by kernel_rfl) ?_
      | refine arith_half (by omega) ?_
      | refine arith_in (by omega) ?_
      | refine arith_u (by omega) ?_
      | refine need_i (p := (T.row _).eq = true) (by kernel_rfl) ?_
      | refine need_i (by omega) ?_
      | refine br_not ?_
      | refine br_dec (fun hd => ?_) (fun hd => ?_)
      | refine br_lt (fun hlt => ?_) (fun hlt => ?_)
      | refine br_le (fun hle => ?_) (fun hle => ?_)
      | refine br_eq (fun heq => ?_) (fun heq => ?_)
      | refine idx_map (by omega) (fun x hx => ?_)
      | refine live_i rfl (fun h => by cases h) ?_
      | refine branch_s (fun hbb => ?_) (fun hbb => ?_)
      | refine ret_i ?_
      | refine retB_i ?_)
    conv => whnf
    exact ret_boolD (dec_retf (fun h => by rw [h] at hl; omega))
theorem sameLines_spec (a b : List ByteArray) (ha : a.length ≤ 1000000) : Sp 16 [.sl (a.map S), .sl (b.map S)] (.lit (.bool (decB (a = b)))) := sp_of Tryd.func16 (by kernel_rfl) (by kernel_rfl) (sameLines_vc a b ha)
end Go.Proofs.Cost58
