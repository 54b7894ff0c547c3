/-
  Reading a label: the reference's way.
-/
import Derived.Test.YtckcanemolkncaaDoorA4
set_option linter.unusedVariables false
set_option linter.unusedSimpArgs false
namespace Go.Proofs.Cost58
open Go Go.Proofs Go.Ab
set_option maxRecDepth 100000

def shipW : ByteArray := { data := #[115, 104, 105, 112, 112, 101, 100] }
noncomputable def rcandF (m0 m2 m7 : Int) (a3 a4 a5 a6 a8 o : ByteArray) : Pc :=
  if eqS a8 goodB = true then ⟨m0, m2, a3, a4, a5, m7, eqS a6 lengthB, 1, emptyB⟩ else if eqS a8 rejectedB = true then ⟨m0, m2, a3, a4, a5, m7, eqS a6 lengthB, 2, emptyB⟩
  else if eqS a8 shipW = true then ⟨m0, m2, a3, a4, a5, m7, eqS a6 lengthB, 3, o⟩ else ⟨m0, m2, a3, a4, a5, m7, eqS a6 lengthB, 0, emptyB⟩
def elev (R : List ByteArray) : ByteArray := match R with | _ :: b :: _ => b | _ => emptyB
theorem rread_none (s : ByteArray) (L : List ByteArray) (c0 : Sp 67 [S s] (.own 9 (L.map S))) (hL : L.length < 9 ∨ (9 ≤ L.length ∧ (L.getD 2 emptyB).size = 0)) : fnVC T Tryd.prog Tryd.f31 [S s] (.tup [pcV zeroPc, I 3]) := by
  have hlen : (L.map S).length = L.length := by simp
  have hidx : 9 ≤ L.length → (L.map S)[2]? = some (S (L.getD 2 emptyB)) := fun h => by
    rw [List.getElem?_map, List.getD_eq_getElem?_getD, List.getElem?_eq_getElem (show 2 < L.length by omega)]; rfl
  generalize L.getD 2 emptyB = a2 at *
  generalize L.map S = LV at *
  rcases hL with hL | ⟨hL, hz⟩
  · repeat' ((conv => whnf); first
      | (exfalso; change (9 : Int) ≤ LV.length at hlt; omega)
      | (refine call_i (c0) false ?_ rfl ?_; focus ((repeat' (first | exact trivial | refine And.intro ?_ ?_ | with_reducible rfl | exact (fun h => by cases h) | exact rfl)); done))
      | refine seq_go ?_
      | refine draw_i (by kernel_rfl) ?_
      | refine arith_half (by omega) ?_
      | refine arith_in (by omega) ?_
      | refine arith_u (by omega) ?_
      | refine need_i (p := (T.row _).eq = true) (by kernel_rfl) ?_
      | refine need_i (by omega) ?_
      | refine br_not ?_
      | refine br_dec (fun hd => ?_) (fun hd => ?_)
      | refine br_lt (fun hlt => ?_) (fun hlt => ?_)
      | refine br_le (fun hle => ?_) (fun hle => ?_)
      | refine br_eq (fun heq => ?_) (fun heq => ?_)
      | refine idx_map (by omega) (fun x hx => ?_)
      | refine live_i rfl (fun h => by cases h) ?_
      | refine branch_s (fun hbb => ?_) (fun hbb => ?_)
      | refine ret_i ?_
      | refine retB_i ?_)
    conv => whnf
    refine ⟨_, rfl, ?_⟩
    (repeat' (first | exact trivial | refine And.intro ?_ ?_ | with_reducible rfl | exact (fun h => by cases h) | exact rfl)); done
  · replace hidx := hidx hL
    repeat' ((conv => whnf); first
      | (exfalso; change (LV.length : Int) < 9 at hlt; omega)
      | (exfalso; omega)
      | (refine call_i (c0) false ?_ rfl ?_; focus ((repeat' (first | exact trivial | refine And.intro ?_ ?_ | with_reducible rfl | exact (fun h => by cases h) | exact rfl)); done))
      | refine need_i ⟨rfl, (fun h => by cases h), (show (0 : Int) ≤ 2 by omega), (show (2 : Int) < LV.length by omega)⟩ ?_
      | refine idx_i (S a2) hidx ?_
      | refine seq_go ?_
      | refine draw_i (by kernel_rfl) ?_
      | refine arith_half (by omega) ?_
      | refine arith_in (by omega) ?_
      | refine arith_u (by omega) ?_
      | refine need_i (p := (T.row _).eq = true) (by kernel_rfl) ?_
      | refine need_i (by omega) ?_
      | refine br_not ?_
      | refine br_dec (fun hd => ?_) (fun hd => ?_)
      | refine br_lt (fun hlt => ?_) (fun hlt => ?_)
      | refine br_le (fun hle => ?_) (fun hle => ?_)
      | refine br_eq (fun heq => ?_) (fun heq => ?_)
      | refine idx_map (by omega) (fun x hx => ?_)
      | refine live_i rfl (fun h => by cases h) ?_
      | refine branch_s (fun hbb => ?_) (fun hbb => ?_)
      | refine ret_i ?_
      | refine retB_i ?_)
    conv => whnf
    refine ⟨_, rfl, ?_⟩
    (repeat' (first | exact trivial | refine And.intro ?_ ?_ | with_reducible rfl | exact (fun h => by cases h) | exact rfl)); done
set_option maxHeartbeats 4000000 in
theorem rread_core (s a0 a1 a2 a3 a4 a5 a6 a7 a8 : ByteArray) (R : List ByteArray) (m0 m2 m7 : Int) (p : Pc) (e : Int) (c0 : Sp 67 [S s] (.own 9 ((a0 :: a1 :: a2 :: a3 :: a4 :: a5 :: a6 :: a7 :: a8 :: R).map S)))
    (h2 : 1 ≤ a2.size) (hsz : a2.size ≤ 1000) (c1 : Sp 68 [S a0] (I m0)) (c2 : Sp 68 [S (a2.extract (0 : Int).toNat ((a2.size : Int) - 1).toNat)] (I m2)) (c3 : Sp 68 [S a7] (I m7))
    (hfin : finR (rcandF m0 m2 m7 a3 a4 a5 a6 a8 (elev R)) s = (p, e)) : fnVC T Tryd.prog Tryd.f31 [S s] (.tup [pcV p, I e]) := by
  have hlen : ((a0 :: a1 :: a2 :: a3 :: a4 :: a5 :: a6 :: a7 :: a8 :: R).map S).length = R.length + 9 := by simp
  have k10 : (elev R = emptyB ∧ R.length < 2) ∨ (2 ≤ R.length ∧ ((a0 :: a1 :: a2 :: a3 :: a4 :: a5 :: a6 :: a7 :: a8 :: R).map S)[10]? = some (S (elev R))) := by
    match R with
    | [] => exact .inl ⟨rfl, by simp⟩
    | [b] => exact .inl ⟨rfl, by simp⟩
    | b :: c :: r => exact .inr ⟨by simp, rfl⟩
  have k0 : ((a0 :: a1 :: a2 :: a3 :: a4 :: a5 :: a6 :: a7 :: a8 :: R).map S)[0]? = some (S a0) := rfl
  have k2 : ((a0 :: a1 :: a2 :: a3 :: a4 :: a5 :: a6 :: a7 :: a8 :: R).map S)[2]? = some (S a2) := rfl
  have k3 : ((a0 :: a1 :: a2 :: a3 :: a4 :: a5 :: a6 :: a7 :: a8 :: R).map S)[3]? = some (S a3) := rfl
  have k4 : ((a0 :: a1 :: a2 :: a3 :: a4 :: a5 :: a6 :: a7 :: a8 :: R).map S)[4]? = some (S a4) := rfl
  have k5 : ((a0 :: a1 :: a2 :: a3 :: a4 :: a5 :: a6 :: a7 :: a8 :: R).map S)[5]? = some (S a5) := rfl
  have k6 : ((a0 :: a1 :: a2 :: a3 :: a4 :: a5 :: a6 :: a7 :: a8 :: R).map S)[6]? = some (S a6) := rfl
  have k7 : ((a0 :: a1 :: a2 :: a3 :: a4 :: a5 :: a6 :: a7 :: a8 :: R).map S)[7]? = some (S a7) := rfl
  have k8 : ((a0 :: a1 :: a2 :: a3 :: a4 :: a5 :: a6 :: a7 :: a8 :: R).map S)[8]? = some (S a8) := rfl
  generalize (a0 :: a1 :: a2 :: a3 :: a4 :: a5 :: a6 :: a7 :: a8 :: R).map S = LV at *
  generalize elev R = o at *
  generalize R.length = nR at *
  rcases k10 with ⟨rfl, hnR⟩ | ⟨hnR, k10⟩
  all_goals
   repeat' ((conv => whnf); first
     | (exfalso; change (LV.length : Int) < 9 at hlt; omega)
     | (exfalso; change (LV.length : Int) ≤ 10 at hlt; omega)
     | (exfalso; change (10 : Int) < LV.length at hlt; omega)
     | (refine call_i (c0) false ?_ rfl ?_; focus ((repeat' (first | exact trivial | refine And.intro ?_ ?_ | with_reducible rfl | exact (fun h => by cases h) | exact rfl)); done))
     | refine need_i ⟨rfl, (fun h => by cases h), (show (0 : Int) ≤ (0 : Int) by omega), (show (0 : Int) < LV.length by omega)⟩ ?_
     | refine need_i ⟨rfl, (fun h => by cases h), (show (0 : Int) ≤ (2 : Int) by omega), (show (2 : Int) < LV.length by omega)⟩ ?_
     | refine need_i ⟨rfl, (fun h => by cases h), (show (0 : Int) ≤ (3 : Int) by omega), (show (3 : Int) < LV.length by omega)⟩ ?_
     | refine need_i ⟨rfl, (fun h => by cases h), (show (0 : Int) ≤ (4 : Int) by omega), (show (4 : Int) < LV.length by omega)⟩ ?_
     | refine need_i ⟨rfl, (fun h => by cases h), (show (0 : Int) ≤ (5 : Int) by omega), (show (5 : Int) < LV.length by omega)⟩ ?_
     | refine need_i ⟨rfl, (fun h => by cases h), (show (0 : Int) ≤ (6 : Int) by omega), (show (6 : Int) < LV.length by omega)⟩ ?_
     | refine need_i ⟨rfl, (fun h => by cases h), (show (0 : Int) ≤ (7 : Int) by omega), (show (7 : Int) < LV.length by omega)⟩ ?_
     | refine need_i ⟨rfl, (fun h => by cases h), (show (0 : Int) ≤ (8 : Int) by omega), (show (8 : Int) < LV.length by omega)⟩ ?_
     | refine need_i ⟨rfl, (fun h => by cases h), (show (0 : Int) ≤ (10 : Int) by omega), (show (10 : Int) < LV.length by omega)⟩ ?_
     | refine idx_i (S a0) k0 ?_
     | refine idx_i (S a2) k2 ?_
     | refine idx_i (S a3) k3 ?_
     | refine idx_i (S a4) k4 ?_
     | refine idx_i (S a5) k5 ?_
     | refine idx_i (S a6) k6 ?_
     | refine idx_i (S a7) k7 ?_
     | refine idx_i (S a8) k8 ?_
     | refine idx_i (S o) k10 ?_
     | (exfalso; omega)
     | (refine call_i (c1) false ?_ rfl ?_; focus ((repeat' (first | exact trivial | refine And.intro ?_ ?_ | with_reducible rfl | exact (fun h => by cases h) | exact rfl)); done))
     | (refine call_i (c2) false ?_ rfl ?_; focus ((repeat' (first | exact trivial | refine And.intro ?_ ?_ | with_reducible rfl | exact (fun h => by cases h) | exact rfl)); done))
     | (refine call_i (c3) false ?_ rfl ?_; focus ((repeat' (first | exact trivial | refine And.intro ?_ ?_ | with_reducible rfl | exact (fun h => by cases h) | exact rfl)); done))
     | (refine call_i (rlabel_spec ⟨m0, m2, a3, a4, a5, m7, eqS a6 lengthB, 1, emptyB⟩) false ?_ rfl ?_; focus ((repeat' (first | exact trivial | refine And.intro ?_ ?_ | with_reducible rfl | exact (fun h => by cases h) | exact rfl)); done))
     | (refine call_i (rlabel_spec ⟨m0, m2, a3, a4, a5, m7, eqS a6 lengthB, 2, emptyB⟩) false ?_ rfl ?_; focus ((repeat' (first | exact trivial | refine And.intro ?_ ?_ | with_reducible rfl | exact (fun h => by cases h) | exact rfl)); done))
     | (refine call_i (rlabel_spec ⟨m0, m2, a3, a4, a5, m7, eqS a6 lengthB, 3, o⟩) false ?_ rfl ?_; focus ((repeat' (first | exact trivial | refine And.intro ?_ ?_ | with_reducible rfl | exact (fun h => by cases h) | exact rfl)); done))
     | (refine call_i (rlabel_spec ⟨m0, m2, a3, a4, a5, m7, eqS a6 lengthB, 3, emptyB⟩) false ?_ rfl ?_; focus ((repeat' (first | exact trivial | refine And.intro ?_ ?_ | with_reducible rfl | exact (fun h => by cases h) | exact rfl)); done))
     | (refine call_i (rlabel_spec ⟨m0, m2, a3, a4, a5, m7, eqS a6 lengthB, 0, emptyB⟩) false ?_ rfl ?_; focus ((repeat' (first | exact trivial | refine And.intro ?_ ?_ | with_reducible rfl | exact (fun h => by cases h) | exact rfl)); done))
     | refine seq_go ?_
     | refine draw_i (by kernel_rfl) ?_
     | refine arith_half (by omega) ?_
     | refine arith_in (by omega) ?_
     | refine arith_u (by omega) ?_
     | refine need_i (p := (T.row _).eq = true) (by kernel_rfl) ?_
     | refine need_i (by omega) ?_
     | refine br_not ?_
     | refine br_dec (fun hd => ?_) (fun hd => ?_)
     | refine br_lt (fun hlt => ?_) (fun hlt => ?_)
     | refine br_le (fun hle => ?_) (fun hle => ?_)
     | refine br_eq (fun heq => ?_) (fun heq => ?_)
     | refine idx_map (by omega) (fun x hx => ?_)
     | refine live_i rfl (fun h => by cases h) ?_
     | refine branch_s (fun hbb => ?_) (fun hbb => ?_)
     | refine ret_i ?_
     | refine retB_i ?_)
  · have hc := hfin
    rw [show rcandF m0 m2 m7 a3 a4 a5 a6 a8 _ = _ from by unfold rcandF; rw [if_pos (by assumption)]] at hc
    obtain ⟨rfl, rfl⟩ := finR_ok hc heq (by assumption)
    conv => whnf
    refine ⟨_, rfl, ?_⟩
    (repeat' (first | exact trivial | refine And.intro ?_ ?_ | with_reducible rfl | exact (fun h => by cases h) | exact rfl)); done
  · have hc := hfin
    rw [show rcandF m0 m2 m7 a3 a4 a5 a6 a8 _ = _ from by unfold rcandF; rw [if_pos (by assumption)]] at hc
    obtain ⟨rfl, rfl⟩ := finR_no hc (.inr (by assumption))
    conv => whnf
    refine ⟨_, rfl, ?_⟩
    (repeat' (first | exact trivial | refine And.intro ?_ ?_ | with_reducible rfl | exact (fun h => by cases h) | exact rfl)); done
  · have hc := hfin
    rw [show rcandF m0 m2 m7 a3 a4 a5 a6 a8 _ = _ from by unfold rcandF; rw [if_pos (by assumption)]] at hc
    obtain ⟨rfl, rfl⟩ := finR_no hc (.inl heq)
    conv => whnf
    refine ⟨_, rfl, ?_⟩
    (repeat' (first | exact trivial | refine And.intro ?_ ?_ | with_reducible rfl | exact (fun h => by cases h) | exact rfl)); done
  · have hc := hfin
    rw [show rcandF m0 m2 m7 a3 a4 a5 a6 a8 _ = _ from by unfold rcandF; rw [if_neg (ne_t (by assumption)), if_pos (by assumption)]] at hc
    obtain ⟨rfl, rfl⟩ := finR_ok hc heq (by assumption)
    conv => whnf
    refine ⟨_, rfl, ?_⟩
    (repeat' (first | exact trivial | refine And.intro ?_ ?_ | with_reducible rfl | exact (fun h => by cases h) | exact rfl)); done
  · have hc := hfin
    rw [show rcandF m0 m2 m7 a3 a4 a5 a6 a8 _ = _ from by unfold rcandF; rw [if_neg (ne_t (by assumption)), if_pos (by assumption)]] at hc
    obtain ⟨rfl, rfl⟩ := finR_no hc (.inr (by assumption))
    conv => whnf
    refine ⟨_, rfl, ?_⟩
    (repeat' (first | exact trivial | refine And.intro ?_ ?_ | with_reducible rfl | exact (fun h => by cases h) | exact rfl)); done
  · have hc := hfin
    rw [show rcandF m0 m2 m7 a3 a4 a5 a6 a8 _ = _ from by unfold rcandF; rw [if_neg (ne_t (by assumption)), if_pos (by assumption)]] at hc
    obtain ⟨rfl, rfl⟩ := finR_no hc (.inl heq)
    conv => whnf
    refine ⟨_, rfl, ?_⟩
    (repeat' (first | exact trivial | refine And.intro ?_ ?_ | with_reducible rfl | exact (fun h => by cases h) | exact rfl)); done
  · have hc := hfin
    rw [show rcandF m0 m2 m7 a3 a4 a5 a6 a8 _ = _ from by unfold rcandF; rw [if_neg (ne_t (by assumption)), if_neg (ne_t (by assumption)), if_pos (by assumption)]] at hc
    obtain ⟨rfl, rfl⟩ := finR_ok hc heq (by assumption)
    conv => whnf
    refine ⟨_, rfl, ?_⟩
    (repeat' (first | exact trivial | refine And.intro ?_ ?_ | with_reducible rfl | exact (fun h => by cases h) | exact rfl)); done
  · have hc := hfin
    rw [show rcandF m0 m2 m7 a3 a4 a5 a6 a8 _ = _ from by unfold rcandF; rw [if_neg (ne_t (by assumption)), if_neg (ne_t (by assumption)), if_pos (by assumption)]] at hc
    obtain ⟨rfl, rfl⟩ := finR_no hc (.inr (by assumption))
    conv => whnf
    refine ⟨_, rfl, ?_⟩
    (repeat' (first | exact trivial | refine And.intro ?_ ?_ | with_reducible rfl | exact (fun h => by cases h) | exact rfl)); done
  · have hc := hfin
    rw [show rcandF m0 m2 m7 a3 a4 a5 a6 a8 _ = _ from by unfold rcandF; rw [if_neg (ne_t (by assumption)), if_neg (ne_t (by assumption)), if_pos (by assumption)]] at hc
    obtain ⟨rfl, rfl⟩ := finR_no hc (.inl heq)
    conv => whnf
    refine ⟨_, rfl, ?_⟩
    (repeat' (first | exact trivial | refine And.intro ?_ ?_ | with_reducible rfl | exact (fun h => by cases h) | exact rfl)); done
  · have hc := hfin
    rw [show rcandF m0 m2 m7 a3 a4 a5 a6 a8 _ = _ from by unfold rcandF; rw [if_neg (ne_t (by assumption)), if_neg (ne_t (by assumption)), if_neg (ne_t (by assumption))]] at hc
    obtain ⟨rfl, rfl⟩ := finR_ok hc heq (by assumption)
    conv => whnf
    refine ⟨_, rfl, ?_⟩
    (repeat' (first | exact trivial | refine And.intro ?_ ?_ | with_reducible rfl | exact (fun h => by cases h) | exact rfl)); done
  · have hc := hfin
    rw [show rcandF m0 m2 m7 a3 a4 a5 a6 a8 _ = _ from by unfold rcandF; rw [if_neg (ne_t (by assumption)), if_neg (ne_t (by assumption)), if_neg (ne_t (by assumption))]] at hc
    obtain ⟨rfl, rfl⟩ := finR_no hc (.inr (by assumption))
    conv => whnf
    refine ⟨_, rfl, ?_⟩
    (repeat' (first | exact trivial | refine And.intro ?_ ?_ | with_reducible rfl | exact (fun h => by cases h) | exact rfl)); done
  · have hc := hfin
    rw [show rcandF m0 m2 m7 a3 a4 a5 a6 a8 _ = _ from by unfold rcandF; rw [if_neg (ne_t (by assumption)), if_neg (ne_t (by assumption)), if_neg (ne_t (by assumption))]] at hc
    obtain ⟨rfl, rfl⟩ := finR_no hc (.inl heq)
    conv => whnf
    refine ⟨_, rfl, ?_⟩
    (repeat' (first | exact trivial | refine And.intro ?_ ?_ | with_reducible rfl | exact (fun h => by cases h) | exact rfl)); done
  · have hc := hfin
    rw [show rcandF m0 m2 m7 a3 a4 a5 a6 a8 _ = _ from by unfold rcandF; rw [if_pos (by assumption)]] at hc
    obtain ⟨rfl, rfl⟩ := finR_ok hc heq (by assumption)
    conv => whnf
    refine ⟨_, rfl, ?_⟩
    (repeat' (first | exact trivial | refine And.intro ?_ ?_ | with_reducible rfl | exact (fun h => by cases h) | exact rfl)); done
  · have hc := hfin
    rw [show rcandF m0 m2 m7 a3 a4 a5 a6 a8 _ = _ from by unfold rcandF; rw [if_pos (by assumption)]] at hc
    obtain ⟨rfl, rfl⟩ := finR_no hc (.inr (by assumption))
    conv => whnf
    refine ⟨_, rfl, ?_⟩
    (repeat' (first | exact trivial | refine And.intro ?_ ?_ | with_reducible rfl | exact (fun h => by cases h) | exact rfl)); done
  · have hc := hfin
    rw [show rcandF m0 m2 m7 a3 a4 a5 a6 a8 _ = _ from by unfold rcandF; rw [if_pos (by assumption)]] at hc
    obtain ⟨rfl, rfl⟩ := finR_no hc (.inl heq)
    conv => whnf
    refine ⟨_, rfl, ?_⟩
    (repeat' (first | exact trivial | refine And.intro ?_ ?_ | with_reducible rfl | exact (fun h => by cases h) | exact rfl)); done
  · have hc := hfin
    rw [show rcandF m0 m2 m7 a3 a4 a5 a6 a8 _ = _ from by unfold rcandF; rw [if_neg (ne_t (by assumption)), if_pos (by assumption)]] at hc
    obtain ⟨rfl, rfl⟩ := finR_ok hc heq (by assumption)
    conv => whnf
    refine ⟨_, rfl, ?_⟩
    (repeat' (first | exact trivial | refine And.intro ?_ ?_ | with_reducible rfl | exact (fun h => by cases h) | exact rfl)); done
  · have hc := hfin
    rw [show rcandF m0 m2 m7 a3 a4 a5 a6 a8 _ = _ from by unfold rcandF; rw [if_neg (ne_t (by assumption)), if_pos (by assumption)]] at hc
    obtain ⟨rfl, rfl⟩ := finR_no hc (.inr (by assumption))
    conv => whnf
    refine ⟨_, rfl, ?_⟩
    (repeat' (first | exact trivial | refine And.intro ?_ ?_ | with_reducible rfl | exact (fun h => by cases h) | exact rfl)); done
  · have hc := hfin
    rw [show rcandF m0 m2 m7 a3 a4 a5 a6 a8 _ = _ from by unfold rcandF; rw [if_neg (ne_t (by assumption)), if_pos (by assumption)]] at hc
    obtain ⟨rfl, rfl⟩ := finR_no hc (.inl heq)
    conv => whnf
    refine ⟨_, rfl, ?_⟩
    (repeat' (first | exact trivial | refine And.intro ?_ ?_ | with_reducible rfl | exact (fun h => by cases h) | exact rfl)); done
  · have hc := hfin
    rw [show rcandF m0 m2 m7 a3 a4 a5 a6 a8 _ = _ from by unfold rcandF; rw [if_neg (ne_t (by assumption)), if_neg (ne_t (by assumption)), if_pos (by assumption)]] at hc
    obtain ⟨rfl, rfl⟩ := finR_ok hc heq (by assumption)
    conv => whnf
    refine ⟨_, rfl, ?_⟩
    (repeat' (first | exact trivial | refine And.intro ?_ ?_ | with_reducible rfl | exact (fun h => by cases h) | exact rfl)); done
  · have hc := hfin
    rw [show rcandF m0 m2 m7 a3 a4 a5 a6 a8 _ = _ from by unfold rcandF; rw [if_neg (ne_t (by assumption)), if_neg (ne_t (by assumption)), if_pos (by assumption)]] at hc
    obtain ⟨rfl, rfl⟩ := finR_no hc (.inr (by assumption))
    conv => whnf
    refine ⟨_, rfl, ?_⟩
    (repeat' (first | exact trivial | refine And.intro ?_ ?_ | with_reducible rfl | exact (fun h => by cases h) | exact rfl)); done
  · have hc := hfin
    rw [show rcandF m0 m2 m7 a3 a4 a5 a6 a8 _ = _ from by unfold rcandF; rw [if_neg (ne_t (by assumption)), if_neg (ne_t (by assumption)), if_pos (by assumption)]] at hc
    obtain ⟨rfl, rfl⟩ := finR_no hc (.inl heq)
    conv => whnf
    refine ⟨_, rfl, ?_⟩
    (repeat' (first | exact trivial | refine And.intro ?_ ?_ | with_reducible rfl | exact (fun h => by cases h) | exact rfl)); done
  · have hc := hfin
    rw [show rcandF m0 m2 m7 a3 a4 a5 a6 a8 _ = _ from by unfold rcandF; rw [if_neg (ne_t (by assumption)), if_neg (ne_t (by assumption)), if_neg (ne_t (by assumption))]] at hc
    obtain ⟨rfl, rfl⟩ := finR_ok hc heq (by assumption)
    conv => whnf
    refine ⟨_, rfl, ?_⟩
    (repeat' (first | exact trivial | refine And.intro ?_ ?_ | with_reducible rfl | exact (fun h => by cases h) | exact rfl)); done
  · have hc := hfin
    rw [show rcandF m0 m2 m7 a3 a4 a5 a6 a8 _ = _ from by unfold rcandF; rw [if_neg (ne_t (by assumption)), if_neg (ne_t (by assumption)), if_neg (ne_t (by assumption))]] at hc
    obtain ⟨rfl, rfl⟩ := finR_no hc (.inr (by assumption))
    conv => whnf
    refine ⟨_, rfl, ?_⟩
    (repeat' (first | exact trivial | refine And.intro ?_ ?_ | with_reducible rfl | exact (fun h => by cases h) | exact rfl)); done
  · have hc := hfin
    rw [show rcandF m0 m2 m7 a3 a4 a5 a6 a8 _ = _ from by unfold rcandF; rw [if_neg (ne_t (by assumption)), if_neg (ne_t (by assumption)), if_neg (ne_t (by assumption))]] at hc
    obtain ⟨rfl, rfl⟩ := finR_no hc (.inl heq)
    conv => whnf
    refine ⟨_, rfl, ?_⟩
    (repeat' (first | exact trivial | refine And.intro ?_ ?_ | with_reducible rfl | exact (fun h => by cases h) | exact rfl)); done
open Classical in
/-- what the reference's Read hands back -/
noncomputable def rreadR (s : ByteArray) : Pc × Int :=
  match wordsR s with
  | a0 :: a1 :: a2 :: a3 :: a4 :: a5 :: a6 :: a7 :: a8 :: R => if a2.size = 0 then (zeroPc, 3) else finR (rcandF (numR a0) (numR (a2.extract 0 (a2.size - 1))) (numR a7) a3 a4 a5 a6 a8 (elev R)) s
  | _ => (zeroPc, 3)
theorem wordsP_all (s : ByteArray) : ∀ k, k ≤ s.size → ∀ x ∈ (wordsP s k).1, x.size ≤ k
  | 0, _ => fun x hx => by cases hx
  | k + 1, h => by
    have ih := wordsP_all s k (by omega)
    have h2 := (wordsP_size s k (by omega)).2
    unfold wordsP
    split
    · intro x hx
      rcases List.mem_append.1 hx with hx | hx
      · have := ih x hx; omega
      · cases List.mem_singleton.1 hx; omega
    · intro x hx
      have := ih x hx; omega
theorem wordsR_size (s : ByteArray) {x : ByteArray} (h : x ∈ wordsR s) : x.size ≤ s.size := by
  rcases List.mem_append.1 h with h | h
  · exact wordsP_all s s.size (Nat.le_refl _) x h
  · cases List.mem_singleton.1 h
    exact (wordsP_size s s.size (Nat.le_refl _)).2
theorem rread_spec (s : ByteArray) (hs : s.size ≤ 1000) : Sp 31 [S s] (.tup [pcV (rreadR s).1, I (rreadR s).2]) := by
  refine sp_of Tryd.func31 (by kernel_rfl) (by kernel_rfl) ?_
  have c0 := words_spec s hs
  unfold rreadR
  have hsz : ∀ x ∈ wordsR s, x.size ≤ 1000 := fun x hx => by have := wordsR_size s hx; omega
  generalize wordsR s = L at *
  split
  · rename_i a0 a1 a2 a3 a4 a5 a6 a7 a8 R
    split
    · rename_i hz
      exact rread_none s _ c0 (.inr ⟨by simp, hz⟩)
    · rename_i hz
      have e2 : ((a2.size : Int) - 1).toNat = a2.size - 1 := by omega
      refine rread_core s a0 a1 a2 a3 a4 a5 a6 a7 a8 R _ _ _ _ _ c0 (by omega) (hsz a2 (by simp)) (num_spec a0) ?_ (num_spec a7) rfl
      rw [e2]
      exact num_spec _
  · rename_i hno
    refine rread_none s L c0 (.inl ?_)
    match L, hno with
    | [], _ => simp
    | [_], _ => simp
    | [_, _], _ => simp
    | [_, _, _], _ => simp
    | [_, _, _, _], _ => simp
    | [_, _, _, _, _], _ => simp
    | [_, _, _, _, _, _], _ => simp
    | [_, _, _, _, _, _, _], _ => simp
    | [_, _, _, _, _, _, _, _], _ => simp
    | a0 :: a1 :: a2 :: a3 :: a4 :: a5 :: a6 :: a7 :: a8 :: R, hno => exact (hno _ _ _ _ _ _ _ _ _ _ rfl).elim
end Go.Proofs.Cost58
