/-
  Reading a label: the program's way.
  Labels of the reference, walked.
-/
import Derived.Test.YtckcanemolkncaaDoorA0
import Derived.Test.YtckcanemolkncaaDoorN1
import Derived.Test.YtckcanemolkncaaDoorK1
set_option linter.unusedVariables false
set_option linter.unusedSimpArgs false
namespace Go.Proofs.Cost58
open Go Go.Proofs Go.Ab Go.RowKit
set_option maxRecDepth 100000

def fromS : ByteArray := { data := #[32, 102, 114, 111, 109, 32] }
def colonS : ByteArray := { data := #[58, 32] }
/-- what is left of a text, part by part -/
def rs1 (s : ByteArray) : ByteArray := cutZ s fromS
def rs2 (s : ByteArray) : ByteArray := cutZ (rs1 s) colonS
def rs3 (s : ByteArray) : ByteArray := cutZ (rs2 s) spaceB
def rs4 (s : ByteArray) : ByteArray := cutZ (rs3 s) spaceB
def rs5 (s : ByteArray) : ByteArray := cutZ (rs4 s) spaceB
def rs6 (s : ByteArray) : ByteArray := cutZ (rs5 s) spaceB
def rs7 (s : ByteArray) : ByteArray := cutZ (rs6 s) spaceB
theorem rs_size (s : ByteArray) (hs : s.size ≤ 1000) : (rs1 s).size < 4294967281 ∧ (rs2 s).size < 4294967281 ∧ (rs3 s).size < 4294967281 ∧ (rs4 s).size < 4294967281 ∧ (rs5 s).size < 4294967281 ∧ (rs6 s).size < 4294967281 ∧ (rs7 s).size < 4294967281 := by
  have h1 := cutZ_size s fromS
  have h2 := cutZ_size (rs1 s) colonS
  have h3 := cutZ_size (rs2 s) spaceB
  have h4 := cutZ_size (rs3 s) spaceB
  have h5 := cutZ_size (rs4 s) spaceB
  have h6 := cutZ_size (rs5 s) spaceB
  have h7 := cutZ_size (rs6 s) spaceB
  unfold rs7 rs6 rs5 rs4 rs3 rs2 rs1 at *
  omega
def zeroPc : Pc := ⟨0, 0, emptyB, emptyB, emptyB, 0, false, 0, emptyB⟩
/-- a piece is read if it has this text for a label -/
noncomputable def finR (q : Pc) (s : ByteArray) : Pc × Int := if (labelR q).2 = 0 ∧ eqS (labelR q).1 s = true then (q, 0) else (zeroPc, 3)
noncomputable def candF (n1 n2 n7 : Int) (w3 w4 w5 w6 r7 o : ByteArray) (hp : Bool) : Pc :=
  if hp = true then ⟨n1, n2, w3, w4, w5, n7, eqS w6 lengthB, 3, o⟩ else if eqS r7 goodB = true then ⟨n1, n2, w3, w4, w5, n7, eqS w6 lengthB, 1, emptyB⟩ else ⟨n1, n2, w3, w4, w5, n7, eqS w6 lengthB, 2, emptyB⟩
theorem finR_ok {q : Pc} {s : ByteArray} {p : Pc} {e : Int} (h : finR q s = (p, e)) (h1 : (labelR q).2 = 0) (h2 : eqS (labelR q).1 s = true) : q = p ∧ 0 = e := by
  unfold finR at h; rw [if_pos ⟨h1, h2⟩] at h; cases h; exact ⟨rfl, rfl⟩
theorem finR_no {q : Pc} {s : ByteArray} {p : Pc} {e : Int} (h : finR q s = (p, e)) (h1 : (labelR q).2 ≠ 0 ∨ eqS (labelR q).1 s = false) : zeroPc = p ∧ 3 = e := by
  unfold finR at h
  rw [if_neg (by rintro ⟨h2, h3⟩; rcases h1 with h1 | h1; exact h1 h2; rw [h1] at h3; cases h3)] at h
  cases h; exact ⟨rfl, rfl⟩
theorem ne_t {b : Bool} (h : b = false) : ¬ b = true := by rw [h]; simp
set_option maxHeartbeats 4000000 in
theorem read_core (s r1 r2 r3 r4 r5 r6 r7 w3 w4 w5 w6 o : ByteArray) (n1 n2 n7 : Int) (hp : Bool) (p : Pc) (e : Int)
    (c1 : SqB 64 [S fromS, .box 100000 0] [[.fn 62 [.box 100001 0]], [S s]] (I n1) [[.fn 62 [.box 100001 0]], [S r1]])
    (c2 : SqB 64 [S colonS, .box 100000 0] [[.fn 62 [.box 100001 0]], [S r1]] (I n2) [[.fn 62 [.box 100001 0]], [S r2]])
    (c3 : SqB 62 [S spaceB, .box 100000 0] [[S r2]] (S w3) [[S r3]])
    (c4 : SqB 62 [S spaceB, .box 100000 0] [[S r3]] (S w4) [[S r4]])
    (c5 : SqB 62 [S spaceB, .box 100000 0] [[S r4]] (S w5) [[S r5]])
    (c6 : SqB 62 [S spaceB, .box 100000 0] [[S r5]] (S w6) [[S r6]])
    (c7 : SqB 64 [S spaceB, .box 100000 0] [[.fn 62 [.box 100001 0]], [S r6]] (I n7) [[.fn 62 [.box 100001 0]], [S r7]])
    (c8 : Sq 66 [S r7, S shippedB] (.tup [S o, .lit (.bool hp)])) (hfin : finR (candF n1 n2 n7 w3 w4 w5 w6 r7 o hp) s = (p, e)) :
    fnVC T2 Tryd.prog Tryd.f30 [S s] (.tup [pcV p, I e]) := by
  repeat' ((conv => whnf); first
    | refine draw_h [(5, 5)] [(22, [4]), (24, [4]), (26, [4])] ⟨rfl, trivial⟩ (by kernel_rfl) ?_
    | (refine call_b (c1) [5, 4] rfl ?_ rfl ?_; focus ((repeat' (first | exact trivial | refine And.intro ?_ ?_ | with_reducible rfl | exact (fun h => by cases h) | exact rfl)); done))
    | (refine call_b (c2) [5, 4] rfl ?_ rfl ?_; focus ((repeat' (first | exact trivial | refine And.intro ?_ ?_ | with_reducible rfl | exact (fun h => by cases h) | exact rfl)); done))
    | (refine call_b (c7) [5, 4] rfl ?_ rfl ?_; focus ((repeat' (first | exact trivial | refine And.intro ?_ ?_ | with_reducible rfl | exact (fun h => by cases h) | exact rfl)); done))
    | (refine call_b (c3) [4] rfl ?_ rfl ?_; focus ((repeat' (first | exact trivial | refine And.intro ?_ ?_ | with_reducible rfl | exact (fun h => by cases h) | exact rfl)); done))
    | (refine call_b (c4) [4] rfl ?_ rfl ?_; focus ((repeat' (first | exact trivial | refine And.intro ?_ ?_ | with_reducible rfl | exact (fun h => by cases h) | exact rfl)); done))
    | (refine call_b (c5) [4] rfl ?_ rfl ?_; focus ((repeat' (first | exact trivial | refine And.intro ?_ ?_ | with_reducible rfl | exact (fun h => by cases h) | exact rfl)); done))
    | (refine call_b (c6) [4] rfl ?_ rfl ?_; focus ((repeat' (first | exact trivial | refine And.intro ?_ ?_ | with_reducible rfl | exact (fun h => by cases h) | exact rfl)); done))
    | (refine call_i (c8) false ?_ rfl ?_; focus ((repeat' (first | exact trivial | refine And.intro ?_ ?_ | with_reducible rfl | exact (fun h => by cases h) | exact rfl)); done))
    | (refine call_i (sq_sp (label_spec ⟨n1, n2, w3, w4, w5, n7, eqS w6 lengthB, 3, o⟩)) false ?_ rfl ?_; focus ((repeat' (first | exact trivial | refine And.intro ?_ ?_ | with_reducible rfl | exact (fun h => by cases h) | exact rfl)); done))
    | (refine call_i (sq_sp (label_spec ⟨n1, n2, w3, w4, w5, n7, eqS w6 lengthB, 1, emptyB⟩)) false ?_ rfl ?_; focus ((repeat' (first | exact trivial | refine And.intro ?_ ?_ | with_reducible rfl | exact (fun h => by cases h) | exact rfl)); done))
    | (refine call_i (sq_sp (label_spec ⟨n1, n2, w3, w4, w5, n7, eqS w6 lengthB, 2, emptyB⟩)) false ?_ rfl ?_; focus ((repeat' (first | exact trivial | refine And.intro ?_ ?_ | with_reducible rfl | exact (fun h => by cases h) | exact rfl)); done))
    | refine seq_go ?_
    | refine arith_half (by omega) ?_
    | refine arith_in (by omega) ?_
    | refine arith_u (by omega) ?_
    | refine need_i (p := (T.row _).eq = true) (by kernel_rfl) ?_
    | refine need_i (by omega) ?_
    | refine br_not ?_
    | refine br_dec (fun hd => ?_) (fun hd => ?_)
    | refine br_lt (fun hlt => ?_) (fun hlt => ?_)
    | refine br_le (fun hle => ?_) (fun hle => ?_)
    | refine br_eq (fun heq => ?_) (fun heq => ?_)
    | refine idx_map (by omega) (fun x hx => ?_)
    | refine live_i rfl (fun h => by cases h) ?_
    | refine branch_s (fun hbb => ?_) (fun hbb => ?_)
    | refine ret_i ?_
    | refine retB_i ?_)
  · have hc := hfin
    rw [show candF n1 n2 n7 w3 w4 w5 w6 r7 o hp = _ from by unfold candF; rw [if_pos (by assumption)]] at hc
    obtain ⟨rfl, rfl⟩ := finR_ok hc heq (by assumption)
    conv => whnf
    refine ⟨_, rfl, ?_⟩
    (repeat' (first | exact trivial | refine And.intro ?_ ?_ | with_reducible rfl | exact (fun h => by cases h) | exact rfl)); done
  · have hc := hfin
    rw [show candF n1 n2 n7 w3 w4 w5 w6 r7 o hp = _ from by unfold candF; rw [if_pos (by assumption)]] at hc
    obtain ⟨rfl, rfl⟩ := finR_no hc (.inr (by assumption))
    conv => whnf
    refine ⟨_, rfl, ?_⟩
    (repeat' (first | exact trivial | refine And.intro ?_ ?_ | with_reducible rfl | exact (fun h => by cases h) | exact rfl)); done
  · have hc := hfin
    rw [show candF n1 n2 n7 w3 w4 w5 w6 r7 o hp = _ from by unfold candF; rw [if_pos (by assumption)]] at hc
    obtain ⟨rfl, rfl⟩ := finR_no hc (.inl heq)
    conv => whnf
    refine ⟨_, rfl, ?_⟩
    (repeat' (first | exact trivial | refine And.intro ?_ ?_ | with_reducible rfl | exact (fun h => by cases h) | exact rfl)); done
  · have hc := hfin
    rw [show candF n1 n2 n7 w3 w4 w5 w6 r7 o hp = _ from by unfold candF; rw [if_neg (by simp only [*]; simp), if_pos (by assumption)]] at hc
    obtain ⟨rfl, rfl⟩ := finR_ok hc heq (by assumption)
    conv => whnf
    refine ⟨_, rfl, ?_⟩
    (repeat' (first | exact trivial | refine And.intro ?_ ?_ | with_reducible rfl | exact (fun h => by cases h) | exact rfl)); done
  · have hc := hfin
    rw [show candF n1 n2 n7 w3 w4 w5 w6 r7 o hp = _ from by unfold candF; rw [if_neg (by simp only [*]; simp), if_pos (by assumption)]] at hc
    obtain ⟨rfl, rfl⟩ := finR_no hc (.inr (by assumption))
    conv => whnf
    refine ⟨_, rfl, ?_⟩
    (repeat' (first | exact trivial | refine And.intro ?_ ?_ | with_reducible rfl | exact (fun h => by cases h) | exact rfl)); done
  · have hc := hfin
    rw [show candF n1 n2 n7 w3 w4 w5 w6 r7 o hp = _ from by unfold candF; rw [if_neg (by simp only [*]; simp), if_pos (by assumption)]] at hc
    obtain ⟨rfl, rfl⟩ := finR_no hc (.inl heq)
    conv => whnf
    refine ⟨_, rfl, ?_⟩
    (repeat' (first | exact trivial | refine And.intro ?_ ?_ | with_reducible rfl | exact (fun h => by cases h) | exact rfl)); done
  · have hc := hfin
    rw [show candF n1 n2 n7 w3 w4 w5 w6 r7 o hp = _ from by unfold candF; rw [if_neg (ne_t (by assumption)), if_neg (ne_t (by assumption))]] at hc
    obtain ⟨rfl, rfl⟩ := finR_ok hc heq (by assumption)
    conv => whnf
    refine ⟨_, rfl, ?_⟩
    (repeat' (first | exact trivial | refine And.intro ?_ ?_ | with_reducible rfl | exact (fun h => by cases h) | exact rfl)); done
  · have hc := hfin
    rw [show candF n1 n2 n7 w3 w4 w5 w6 r7 o hp = _ from by unfold candF; rw [if_neg (ne_t (by assumption)), if_neg (ne_t (by assumption))]] at hc
    obtain ⟨rfl, rfl⟩ := finR_no hc (.inr (by assumption))
    conv => whnf
    refine ⟨_, rfl, ?_⟩
    (repeat' (first | exact trivial | refine And.intro ?_ ?_ | with_reducible rfl | exact (fun h => by cases h) | exact rfl)); done
  · have hc := hfin
    rw [show candF n1 n2 n7 w3 w4 w5 w6 r7 o hp = _ from by unfold candF; rw [if_neg (ne_t (by assumption)), if_neg (ne_t (by assumption))]] at hc
    obtain ⟨rfl, rfl⟩ := finR_no hc (.inl heq)
    conv => whnf
    refine ⟨_, rfl, ?_⟩
    (repeat' (first | exact trivial | refine And.intro ?_ ?_ | with_reducible rfl | exact (fun h => by cases h) | exact rfl)); done

/-- what Read hands back -/
noncomputable def candP (s : ByteArray) : Pc := candF (atoiV (cutA s fromS).data.toList) (atoiV (cutA (rs1 s) colonS).data.toList) (atoiV (cutA (rs6 s) spaceB).data.toList) (cutA (rs2 s) spaceB) (cutA (rs3 s) spaceB) (cutA (rs4 s) spaceB) (cutA (rs5 s) spaceB) (rs7 s)
  (bA (Lib.trimPrefix (rs7 s).data.toList shippedB.data.toList)) (Lib.hasPrefix (rs7 s).data.toList shippedB.data.toList)
noncomputable def readR (s : ByteArray) : Pc × Int := finR (candP s) s
theorem read_spec (s : ByteArray) (hs : s.size ≤ 1000) : Sq 30 [S s] (.tup [pcV (readR s).1, I (readR s).2]) := by
  obtain ⟨h1, h2, h3, h4, h5, h6, h7⟩ := rs_size s hs
  refine sq_of Tryd.func30 (by kernel_rfl) (by kernel_rfl) (read_core s (rs1 s) (rs2 s) (rs3 s) (rs4 s) (rs5 s) (rs6 s) (rs7 s) _ _ _ _ _ _ _ _ _ _ _ (number_spec s fromS (by omega)) (number_spec (rs1 s) colonS h1) (word_spec (rs2 s) spaceB h2) (word_spec (rs3 s) spaceB h3) (word_spec (rs4 s) spaceB h4) (word_spec (rs5 s) spaceB h5) (number_spec (rs6 s) spaceB h6) (cutp_spec (rs7 s) shippedB) rfl)
end Go.Proofs.Cost58
namespace Go.Proofs.Cost58
open Go Go.Proofs Go.Ab
set_option maxRecDepth 100000

theorem rid_vc (n : Int) : fnVC T Tryd.prog Tryd.f94 [I n] (.lit (.bool (decB (idOk n)))) := by
  repeat' ((conv => whnf); first
    | refine seq_go ?_
    | refine draw_i (by kernel_rfl) ?_
    | refine arith_half (by omega) ?_
    | refine arith_in (by omega) ?_
    | refine arith_u (by omega) ?_
    | refine need_i (p := (T.row _).eq = true) (by kernel_rfl) ?_
    | refine need_i (by omega) ?_
    | refine br_not ?_
    | refine br_dec (fun hd => ?_) (fun hd => ?_)
    | refine br_lt (fun hlt => ?_) (fun hlt => ?_)
    | refine br_le (fun hle => ?_) (fun hle => ?_)
    | refine br_eq (fun heq => ?_) (fun heq => ?_)
    | refine idx_map (by omega) (fun x hx => ?_)
    | refine live_i rfl (fun h => by cases h) ?_
    | refine branch_s (fun hbb => ?_) (fun hbb => ?_)
    | refine ret_i ?_
    | refine retB_i ?_)
  all_goals (conv => whnf)
  all_goals refine ret_boolD ?_
  · refine le_dec ?_
    unfold idOk; omega
  · exact dec_retf (by unfold idOk; omega)
theorem rid_spec (n : Int) : Sp 94 [I n] (.lit (.bool (decB (idOk n)))) := sp_of Tryd.func94 (by kernel_rfl) (by kernel_rfl) (rid_vc n)
theorem rlabelled_vc (p : Pc) : fnVC T Tryd.prog Tryd.f61 [pcV p] (.lit (.bool (decB (labelled p)))) := by
  repeat' ((conv => whnf); first
    | (refine call_i (rid_spec p.id) false ?_ rfl ?_; focus ((repeat' (first | exact trivial | refine And.intro ?_ ?_ | with_reducible rfl | exact (fun h => by cases h) | exact rfl)); done))
    | (refine call_i (rid_spec p.par) false ?_ rfl ?_; focus ((repeat' (first | exact trivial | refine And.intro ?_ ?_ | with_reducible rfl | exact (fun h => by cases h) | exact rfl)); done))
    | (refine call_i (rname_spec p.part) false ?_ rfl ?_; focus ((repeat' (first | exact trivial | refine And.intro ?_ ?_ | with_reducible rfl | exact (fun h => by cases h) | exact rfl)); done))
    | (refine call_i (rname_spec p.grade) false ?_ rfl ?_; focus ((repeat' (first | exact trivial | refine And.intro ?_ ?_ | with_reducible rfl | exact (fun h => by cases h) | exact rfl)); done))
    | (refine call_i (rname_spec p.heat) false ?_ rfl ?_; focus ((repeat' (first | exact trivial | refine And.intro ?_ ?_ | with_reducible rfl | exact (fun h => by cases h) | exact rfl)); done))
    | (refine call_i (rname_spec p.order) false ?_ rfl ?_; focus ((repeat' (first | exact trivial | refine And.intro ?_ ?_ | with_reducible rfl | exact (fun h => by cases h) | exact rfl)); done))
    | refine br_eqS (fun heqs => ?_) (fun heqs => ?_)
    | refine seq_go ?_
    | refine draw_i (by kernel_rfl) ?_
    | refine arith_half (by omega) ?_
    | refine arith_in (by omega) ?_
    | refine arith_u (by omega) ?_
    | refine need_i (p := (T.row _).eq = true) (by kernel_rfl) ?_
    | refine need_i (by omega) ?_
    | refine br_not ?_
    | refine br_dec (fun hd => ?_) (fun hd => ?_)
    | refine br_lt (fun hlt => ?_) (fun hlt => ?_)
    | refine br_le (fun hle => ?_) (fun hle => ?_)
    | refine br_eq (fun heq => ?_) (fun heq => ?_)
    | refine idx_map (by omega) (fun x hx => ?_)
    | refine live_i rfl (fun h => by cases h) ?_
    | refine branch_s (fun hbb => ?_) (fun hbb => ?_)
    | refine ret_i ?_
    | refine retB_i ?_)
  all_goals (conv => whnf)
  all_goals refine ret_boolD ?_
  all_goals first
    | (refine dec_retf ?_; rintro ⟨h1, h2, h3, h4, h5, h6, h7⟩; first | contradiction | omega | (rcases h7 with ⟨h8 | h8, h9⟩ | ⟨h8, _⟩ <;> first | omega | contradiction); done)
    | (refine dec_dec ⟨fun h => ⟨by assumption, by assumption, by assumption, by assumption, by assumption, by omega, .inr ⟨by omega, h⟩⟩, fun h => ?_⟩; obtain ⟨_, _, _, _, _, _, h7⟩ := h; rcases h7 with ⟨h8 | h8, _⟩ | ⟨_, h9⟩; omega; omega; exact h9)
    | (refine dec_ret ⟨by assumption, by assumption, by assumption, by assumption, by assumption, by omega, .inl ⟨.inl (by assumption), by assumption⟩⟩)
    | (refine eq_dec ⟨fun h => ⟨by assumption, by assumption, by assumption, by assumption, by assumption, by omega, .inl ⟨.inr h, by assumption⟩⟩, fun h => ?_⟩; obtain ⟨_, _, _, _, _, _, h7⟩ := h; rcases h7 with ⟨h8 | h8, _⟩ | ⟨h8, _⟩ <;> omega)
    | (exfalso; omega)
theorem rlabelled_spec (p : Pc) : Sp 61 [pcV p] (.lit (.bool (decB (labelled p)))) := sp_of Tryd.func61 (by kernel_rfl) (by kernel_rfl) (rlabelled_vc p)

def areaS : ByteArray := { data := #[32, 97, 114, 101, 97, 32] }
def lengthS : ByteArray := { data := #[32, 108, 101, 110, 103, 116, 104, 32] }
def goodS : ByteArray := { data := #[32, 103, 111, 111, 100] }
def rejectedS : ByteArray := { data := #[32, 114, 101, 106, 101, 99, 116, 101, 100] }
def shippedS : ByteArray := { data := #[32, 115, 104, 105, 112, 112, 101, 100, 32, 116, 111, 32] }
def kindS (p : Pc) : ByteArray := match p.bar with | true => lengthS | false => areaS
def statS (p : Pc) : ByteArray := if p.status = 2 then rejectedS else if p.status = 3 then shippedS ++ p.order else goodS
def catL (p : Pc) (k st : ByteArray) : ByteArray := itoaB p.id ++ fromS ++ itoaB p.par ++ colonS ++ p.part ++ spaceB ++ p.grade ++ spaceB ++ p.heat ++ k ++ itoaB p.size ++ st
def rlabelB (p : Pc) : ByteArray := catL p (kindS p) (statS p)
theorem lit_size (l : List UInt8) : (⟨l.toArray⟩ : ByteArray).size = l.length := by show l.toArray.size = _; exact List.size_toArray
set_option maxHeartbeats 1000000 in
theorem rlabel_core (p : Pc) (a1 a2 a3 : ByteArray) (c0 : Sp 61 [pcV p] (.lit (.bool true))) (c1 : Sp 44 [I p.id] (S a1)) (c2 : Sp 44 [I p.par] (S a2)) (c3 : Sp 44 [I p.size] (S a3))
    (z1 : a1.size ≤ 100) (z2 : a2.size ≤ 100) (z3 : a3.size ≤ 100) (z4 : p.part.size ≤ 100) (z5 : p.grade.size ≤ 100) (z6 : p.heat.size ≤ 100) (z7 : p.order.size ≤ 100) :
    fnVC T Tryd.prog Tryd.f29 [pcV p] (.tup [S (a1 ++ fromS ++ a2 ++ colonS ++ p.part ++ spaceB ++ p.grade ++ spaceB ++ p.heat ++ kindS p ++ a3 ++ statS p), I 0]) := by
  obtain ⟨id, par, part, grade, heat, size, bar, status, order⟩ := p
  simp only at *
  unfold kindS statS
  simp only
  cases bar
  all_goals
    repeat' ((conv => whnf); first
      | (refine call_i (c0) false ?_ rfl ?_; focus ((repeat' (first | exact trivial | refine And.intro ?_ ?_ | with_reducible rfl | exact (fun h => by cases h) | exact rfl)); done))
      | (refine call_i (c1) false ?_ rfl ?_; focus ((repeat' (first | exact trivial | refine And.intro ?_ ?_ | with_reducible rfl | exact (fun h => by cases h) | exact rfl)); done))
      | (refine call_i (c2) false ?_ rfl ?_; focus ((repeat' (first | exact trivial | refine And.intro ?_ ?_ | with_reducible rfl | exact (fun h => by cases h) | exact rfl)); done))
      | (refine call_i (c3) false ?_ rfl ?_; focus ((repeat' (first | exact trivial | refine And.intro ?_ ?_ | with_reducible rfl | exact (fun h => by cases h) | exact rfl)); done))
      | refine need_i (by simp only [cat_size, lit_size, List.length_cons, List.length_nil]; omega) ?_
      | refine seq_go ?_
      | refine draw_i (by kernel_rfl) ?_
      | refine arith_half (by omega) ?_
      | refine arith_in (by omega) ?_
      | refine arith_u (by omega) ?_
      | refine need_i (p := (T.row _).eq = true) (by kernel_rfl) ?_
      | refine need_i (by omega) ?_
      | refine br_not ?_
      | refine br_dec (fun hd => ?_) (fun hd => ?_)
      | refine br_lt (fun hlt => ?_) (fun hlt => ?_)
      | refine br_le (fun hle => ?_) (fun hle => ?_)
      | refine br_eq (fun heq => ?_) (fun heq => ?_)
      | refine idx_map (by omega) (fun x hx => ?_)
      | refine live_i rfl (fun h => by cases h) ?_
      | refine branch_s (fun hbb => ?_) (fun hbb => ?_)
      | refine ret_i ?_
      | refine retB_i ?_)
  all_goals (conv => whnf)
  · rw [if_pos (show status = 2 from heq)]
    exact ret_two rfl rfl rfl
  · rename_i h2
    rw [if_neg (show ¬ status = 2 from h2), if_pos (show status = 3 from heq)]
    exact ret_two rfl rfl rfl
  · rename_i h2
    rw [if_neg (show ¬ status = 2 from h2), if_neg (show ¬ status = 3 from heq)]
    exact ret_two rfl rfl rfl
  · rw [if_pos (show status = 2 from heq)]
    exact ret_two rfl rfl rfl
  · rename_i h2
    rw [if_neg (show ¬ status = 2 from h2), if_pos (show status = 3 from heq)]
    exact ret_two rfl rfl rfl
  · rename_i h2
    rw [if_neg (show ¬ status = 2 from h2), if_neg (show ¬ status = 3 from heq)]
    exact ret_two rfl rfl rfl
/-- the bytes of a label, part by part -/
def labL (p : Pc) : List UInt8 := Lib.itoa p.id ++ ([32, 102, 114, 111, 109, 32] ++ (Lib.itoa p.par ++ ([58, 32] ++ (p.part.data.toList ++ ([32] ++ (p.grade.data.toList ++ ([32] ++ (p.heat.data.toList ++ ([32] ++ ((whatB p).data.toList ++ ([32] ++ (Lib.itoa p.size ++ ([32] ++ (statB p).data.toList)))))))))))))
theorem cat_list (a b : ByteArray) : (a ++ b).data.toList = a.data.toList ++ b.data.toList := by rw [ByteArray.data_append, Array.toList_append]
theorem itoaB_list (n : Int) : (itoaB n).data.toList = Lib.itoa n := by unfold itoaB; simp
theorem labelB_list (p : Pc) : labelB p = bA (labL p) := by
  unfold labelB joinB Lib.join
  show bA _ = bA _
  congr 1
  simp only [List.map_cons, List.map_nil, List.intercalate_cons_cons, List.intercalate_singleton, cat_list, itoaB_list]
  unfold labL
  simp only [spaceB, fromB, colonB, List.append_assoc, List.cons_append, List.nil_append]
theorem rlabelB_list (p : Pc) : rlabelB p = bA (labL p) := by
  rw [← bA_list (rlabelB p)]
  congr 1
  unfold rlabelB catL
  simp only [cat_list, itoaB_list]
  have h1 : (kindS p).data.toList = [32] ++ ((whatB p).data.toList ++ [32]) := by unfold kindS whatB; cases p.bar <;> rfl
  have h2 : (statS p).data.toList = [32] ++ (statB p).data.toList := by
    unfold statS statB
    split
    · rfl
    · split
      · rw [cat_list, cat_list]; rfl
      · rfl
  rw [h1, h2]
  unfold labL
  simp only [spaceB, fromS, colonS, List.append_assoc, List.cons_append, List.nil_append]
/-- both labels are the same text -/
theorem rlabel_eq (p : Pc) : rlabelB p = labelB p := by rw [rlabelB_list, labelB_list]
open Classical in
theorem rlabel_vc (p : Pc) : fnVC T Tryd.prog Tryd.f29 [pcV p] (.tup [S (labelR p).1, I (labelR p).2]) := by
  by_cases hl : labelled p
  · rw [labelR_ok hl, ← rlabel_eq]
    obtain ⟨h1, h2, h3, h4, h5, h6, h7⟩ := id hl
    have k1 := h1.1; have k2 := h1.2; have k3 := h2.1; have k4 := h2.2
    have ho : p.order.size ≤ 16 := by
      rcases h7 with ⟨_, h⟩ | ⟨_, h⟩
      · rw [h]; decide
      · exact h.2.1
    have q3 := h3.2.1; have q4 := h4.2.1; have q5 := h5.2.1
    have hz1 := itoaB_size p.id (by omega) (by omega)
    have hz2 := itoaB_size p.par (by omega) (by omega)
    have hz3 := itoaB_size p.size (by omega) (by omega)
    have hs := rlabelled_spec p
    rw [decB_t.2 hl] at hs
    exact rlabel_core p _ _ _ hs (ritoa_spec p.id (by omega) (by omega)) (ritoa_spec p.par (by omega) (by omega)) (ritoa_spec p.size (by omega) (by omega)) (by omega) (by omega) (by omega) (by omega) (by omega) (by omega) (by omega)
  · rw [labelR_no hl]
    repeat' ((conv => whnf); first
      | (refine call_i (rlabelled_spec p) false ?_ rfl ?_; focus ((repeat' (first | exact trivial | refine And.intro ?_ ?_ | with_reducible rfl | exact (fun h => by cases h) | exact rfl)); done))
      | (exact (hl hd).elim)
      | refine seq_go ?_
      | refine draw_i (by kernel_rfl) ?_
      | refine arith_half (by omega) ?_
      | refine arith_in (by omega) ?_
      | refine arith_u (by omega) ?_
      | refine need_i (p := (T.row _).eq = true) (by kernel_rfl) ?_
      | refine need_i (by omega) ?_
      | refine br_not ?_
      | refine br_dec (fun hd => ?_) (fun hd => ?_)
      | refine br_lt (fun hlt => ?_) (fun hlt => ?_)
      | refine br_le (fun hle => ?_) (fun hle => ?_)
      | refine br_eq (fun heq => ?_) (fun heq => ?_)
      | refine idx_map (by omega) (fun x hx => ?_)
      | refine live_i rfl (fun h => by cases h) ?_
      | refine branch_s (fun hbb => ?_) (fun hbb => ?_)
      | refine ret_i ?_
      | refine retB_i ?_)
    conv => whnf
    exact ret_two rfl rfl rfl
theorem rlabel_spec (p : Pc) : Sp 29 [pcV p] (.tup [S (labelR p).1, I (labelR p).2]) := sp_of Tryd.func29 (by kernel_rfl) (by kernel_rfl) (rlabel_vc p)
end Go.Proofs.Cost58
