/-
  Shapes: their rings, one after the other.
-/
import Derived.Test.YtkhhdojgbkophaaGreatH21
import Derived.Test.YtkhhdojgbkophaaGreatK16
set_option linter.unusedVariables false
set_option linter.unusedSimpArgs false
namespace Go.Proofs.Led
open Go Go.Proofs Go.Ab
set_option maxRecDepth 100000
set_option maxHeartbeats 4000000
theorem itloop_2 {T : Tab} {σ : St} {x : ItC} {k : Option Nat} {Q : ItQ} {A B : Type} (st : A -> B -> St) (kk : A -> B -> Option Nat) (inv : A -> B -> Prop) (m : A -> B -> Nat) (a0 : A) (b0 : B) (h0 : Le T σ (st a0 b0)) (h1 : inv a0 b0) (hk : kk a0 b0 = k) (h : ∀ a b, inv a b -> x (kk a b) (st a b) fun e k' σ' => match e with
    | .normal => ∃ p' : A × B, Le T σ' (st p'.1 p'.2) /\ inv p'.1 p'.2 /\ kk p'.1 p'.2 = k' /\ m p'.1 p'.2 < m a b
    | e => Q e k' σ') : ItLoop T x k σ Q :=
  itloop_i (A := A × B) (fun p => st p.1 p.2) (fun p => kk p.1 p.2) (fun p => inv p.1 p.2) (fun p => m p.1 p.2) (a0, b0) h0 h1 hk (fun p hp => h p.1 p.2 hp)
def ritems (s : Sh) : List (List V) := (rings s).map fun r => [rgV r]
theorem ritems_0 (s : Sh) : (ritems s)[0]? = some [rgV s.outer] := rfl
theorem ritems_at {s : Sh} {D R : List Rg} {h : Rg} (hp : s.holes = D ++ h :: R) : (ritems s)[D.length + 1]? = some [rgV h] := by
  unfold ritems rings
  rw [List.getElem?_map, List.getElem?_cons_succ, hp]
  simp
theorem pure_rg (r : Rg) : pureL [rgV r] := by
  refine okL_iff.2 (fun y hy => ?_)
  rw [List.mem_singleton.1 hy]
  unfold rgV
  simp only [V.ok]
  exact okL_iff.2 (fun z hz => by obtain ⟨v, _, rfl⟩ := List.mem_map.1 hz; simp [vcV, I, V.ok, V.okL])
theorem rings_vc (s : Sh) (hl : s.holes.length <= 1000000) : itVC T Tryz.prog Tryz.f230 [.fp (shV s).cells] (ritems s) := by
  intro l
  have hil : (ritems s).length = s.holes.length + 1 := by unfold ritems rings; simp
  repeat' ((conv=>whnf);first|refine itseq_i ?_|refine yield_i (ritems_0 s) (pure_rg _) ?_ ?_)
  all_goals conv=>whnf
  all_goals first
    | exact trivial
    | skip
  refine itloop_2 (A := List Rg) (B := List Rg) (fun D R => mkSt [(0, .lit (.func (.yield l) ⟨[]⟩ ⟨[]⟩)), (1, .fp (shV s).cells), (11, .sl (s.holes.map rgV)), (12, I s.holes.length), (13, I D.length)] [] []) (fun D R => some (D.length + 1)) (fun D R => s.holes = D ++ R) (fun D R => R.length) [] s.holes ?_ rfl rfl (fun D R hp => ?_)
  · refine le_mk ?_ ?_ ?_ ?_
    all_goals repeat' (first | exact trivial | refine And.intro ?_ ?_ | with_reducible rfl | exact (fun h => by cases h) | exact Nat.le_refl _ | omega | exact rfl)
    all_goals (try rw [List.length_map])
  have hmm : (s.holes.map rgV).length = s.holes.length := by simp
  cases R with
  | nil =>
    have hlen : s.holes.length = D.length := by rw [hp]; simp
    repeat' ((conv=>whnf);first|(exfalso; omega)|refine itseq_i ?_|refine zz (fun _=>?_) fun _=>?_)
    all_goals conv=>whnf
    show D.length + 1 = (ritems s).length
    omega
  | cons h R =>
    have hlen := mid_len hp
    repeat' ((conv=>whnf);first|(exfalso; omega)|refine itseq_i ?_|refine idx_mid (l := s.holes) (A := D) (x := h) (B := R) hp (by omega) ?_|refine yield_i (ritems_at hp) (pure_rg _) ?_ ?_|refine za ?_|refine zo ?_|refine zz (fun _=>?_) fun _=>?_)
    all_goals conv=>whnf
    all_goals first
      | exact trivial
      | skip
    refine ⟨(D ++ [h], R), ?_, by rw [hp]; simp, by simp, by simp⟩
    simp only [List.length_append, List.length_singleton]
    exact zj
theorem rings_spec (s : Sh) (hl : s.holes.length <= 1000000) : SpecIter T Tryz.prog 230 [.fp (shV s).cells] (ritems s) :=
  it_sound tabOk mixed Tryz.func230 (by kernel_rfl) (Nat.le_of_ble_eq_true (by kernel_rfl)) (by kernel_rfl) (rings_vc s hl)
theorem ringsF_spec (s : Sh) : Sp 167 [shV s] (.fn 230 [.fp (shV s).cells]) := by
  refine zsp Tryz.func167 ?_
  repeat' ((conv=>whnf);first|refine zg ?_|refine zr ?_)
  all_goals conv=>whnf
  exact ⟨by (repeat' (first | exact trivial | refine And.intro ?_ ?_ | with_reducible rfl | exact (fun h => by cases h) | exact rfl)); done, rfl, fun rs h => V.noConfusion h⟩
theorem range_2 {T : Tab} {P : Program} {σ : St} {f : Operand} {g : FuncId} {caps : List V} {ps wr : List Nat} {x y : CodeK} {Q : Exit -> St -> Prop} (items : List (List V)) (hs : SpecIter T P g caps items) (hl : ∀ it ∈ items, it.length = ps.length) {A B : Type} (st : A -> B -> St) (inv : Nat -> A -> B -> Prop) (a0 : A) (b0 : B)
    (h0 : Le T σ (st a0 b0)) (h1 : inv 0 a0 b0) (hf : (st a0 b0).ev f = .fn g caps) (h : ∀ k a b it, inv k a b -> items[k]? = some it -> x ⟨setPs ps it (st a b).env, (st a b).bx, (st a b).ar⟩ fun e σ1 => match e with
      | .normal => y σ1 fun e σ2 => match e with
        | .normal => ∃ p' : A × B, Le T (hideSt wr σ2) (st p'.1 p'.2) /\ inv (k + 1) p'.1 p'.2
        | .ret => Q .ret (hideSt wr σ2)
        | .exit i => Q (.exit i) (hideSt wr σ2)
        | _ => False
      | _ => False) (he : ∀ a b, inv items.length a b -> Q .normal (st a b)) : RangeVC T P f g caps ps wr x y σ Q :=
  range_i items hs hl (A := A × B) (fun p => st p.1 p.2) (fun k p => inv k p.1 p.2) (a0, b0) h0 h1 hf (fun k p it => h k p.1 p.2 it) (fun p => he p.1 p.2)
theorem idx_eq {α : Type} {f : α -> V} {xs : List V} {l A B : List α} {x : α} {i : Nat} {K : V -> Prop} (hx : xs = l.map f) (h : l = A ++ x :: B) (hi : i = A.length) (hk : K (f x)) : idx xs i K := by
  subst hx
  exact idx_mid h hi hk
def Sized (s : Sh) : Prop := s.outer.length <= 1000000 /\ s.holes.length <= 1000000 /\ ∀ h ∈ s.holes, h.length <= 1000000
theorem Sized.mem {s : Sh} (h : Sized s) {r : Rg} (hr : r ∈ rings s) : r.length <= 1000000 := by
  rcases List.mem_cons.1 hr with rfl | hr
  · exact h.1
  · exact h.2.2 r hr
theorem ritems_one (s : Sh) : ∀ it ∈ ritems s, it.length = 1 := fun it h => by
  obtain ⟨r, _, rfl⟩ := List.mem_map.1 h; rfl
theorem ritems_k {s : Sh} {D R : List Rg} {it : List V} (hp : rings s = D ++ R) (h : (ritems s)[D.length]? = some it) : ∃ r R', R = r :: R' /\ it = [rgV r] := by
  unfold ritems at h
  rw [hp, List.getElem?_map] at h
  cases R with
  | nil => simp at h
  | cons r R' =>
    refine ⟨r, R', rfl, ?_⟩
    simp at h
    exact h.symm
theorem corners_snoc (D : List Rg) (r : Rg) : corners (D ++ [r]) = corners D + r.length := by unfold corners; simp
theorem corners_le {D : List Rg} (h : ∀ r ∈ D, ringOk r) : corners D <= 40 * D.length := by
  induction D with
  | nil => simp [corners]
  | cons d D ih =>
    have h1 := (h d (by simp)).2.1
    have h2 := ih (fun r hr => h r (by simp [hr]))
    have e : corners (d :: D) = d.length + corners D := by unfold corners; simp
    rw [e, List.length_cons]; omega
theorem shapeOk_spec (s : Sh) (hs : Sized s) : Sp 158 [shV s] (DB (shapeOk s)) := by
  refine zsp Tryz.func158 ?_
  have hmm : (s.holes.map rgV).length = s.holes.length := by simp
  generalize hP : shapeOk s = P
  have hr : P ↔ shapeOk s := by rw [hP]
  unfold shapeOk at hr
  repeat' ((conv=>whnf);first|refine zc (ringsF_spec s) ?_|refine zg ?_|refine zz (fun _=>?_) fun _=>?_|refine zr ?_)
  all_goals conv=>whnf
  all_goals first
    | (refine ret_boolD (dec_retf ?_); rw [hr]; intro h; obtain ⟨h1, h2, h3, h4⟩ := h; first | omega | contradiction)
    | skip
  have h6 : s.holes.length <= 6 := by omega
  refine range_2 (ritems s) (rings_spec s (by omega)) (ritems_one s) (A := List Rg) (B := List Rg) (fun D R => mkSt [(1, .box 1 0), (2, .box 2 0), (3, .box 3 0), (14, .fn 230 [.fp (shV s).cells])] [(1, (shV s).cells), (2, [.lit (.bool false)]), (3, [I (corners D)])] [])
    (fun k D R => rings s = D ++ R /\ D.length = k /\ ∀ r ∈ D, ringOk r) [] (rings s) ?_ ⟨rfl, rfl, by simp⟩ rfl ?_ ?_
  · exact zj
  · rintro k D R it ⟨hp, hk, hD⟩ hit
    subst hk
    obtain ⟨r, R', rfl, rfl⟩ := ritems_k hp hit
    have hlen := mid_len hp
    have hlr : (rings s).length = s.holes.length + 1 := by unfold rings; simp
    have hrl : r.length <= 1000000 := hs.mem (by rw [hp]; simp)
    have hc := corners_le hD
    have hll : (r.map vcV).length = r.length := by simp
    have ec : ((corners (D ++ [r]) : Nat) : Int) = (corners D : Int) + ((r.map vcV).length : Nat) := by rw [corners_snoc, hll]; simp
    repeat' ((conv=>whnf);first|refine zc (ringOk_spec r hrl) ?_|refine zg ?_|refine za ?_|refine zn ?_|refine zz (fun _=>?_) fun _=>?_|refine zr ?_)
    all_goals conv=>whnf
    · refine ⟨(D ++ [r], R'), ?_, by rw [hp]; simp, by simp, fun q hq => ?_⟩
      · simp only [ec]
        exact zj
      · rcases List.mem_append.1 hq with hq | hq
        · exact hD q hq
        · rw [List.mem_singleton.1 hq]; assumption
    · refine ret_boolD (dec_retf ?_)
      rw [hr]
      intro h
      exact absurd (h.2.1 r (by rw [hp]; simp)) (by assumption)
  · rintro D R ⟨hp, hk, hD⟩
    have hRn : R = [] := by
      have h1 : (ritems s).length = (rings s).length := by unfold ritems; simp
      have h2 : (rings s).length = D.length + R.length := by rw [hp]; simp
      exact List.length_eq_zero_iff.1 (by omega)
    subst hRn
    rw [List.append_nil] at hp
    subst hp
    clear hk
    have hlr : (rings s).length = s.holes.length + 1 := by unfold rings; simp
    have hc := corners_le hD
    repeat' ((conv=>whnf);first|refine zg ?_|refine zz (fun _=>?_) fun _=>?_|refine zr ?_)
    all_goals conv=>whnf
    all_goals first
      | (refine ret_boolD (dec_retf ?_); rw [hr]; intro h; obtain ⟨h1, h2, h3, h4⟩ := h; first | omega | contradiction)
      | skip
    have h80 : corners (rings s) <= 80 := by omega
    have hr2 : P ↔ holesOk s.outer [] s.holes := hr.trans ⟨fun h => h.2.2.2, fun h => ⟨h6, hD, h80, h⟩⟩
    refine loop_2 (A := List Rg) (B := List Rg) (fun D R => mkSt [(1, .box 1 0), (2, .box 2 0), (26, .sl (s.holes.map rgV)), (27, I s.holes.length), (28, I D.length)] [(1, (shV s).cells), (2, [.lit (.bool false)])] []) (fun D R => s.holes = D ++ R /\ (P ↔ holesOk s.outer D R)) (fun D R => R.length) [] s.holes ?_ ⟨rfl, hr2⟩ (fun D R hp => ?_)
    · refine le_mk ?_ ?_ ?_ ?_
      all_goals repeat' (first | exact trivial | refine And.intro ?_ ?_ | with_reducible rfl | exact (fun h => by cases h) | exact Nat.le_refl _ | omega | exact rfl)
      all_goals (try rw [List.length_map])
    obtain ⟨hp, hP2⟩ := hp
    cases R with
    | nil =>
      have hlen : s.holes.length = D.length := by rw [hp]; simp
      repeat' ((conv=>whnf);first|(exfalso; omega)|refine zg ?_|refine zz (fun _=>?_) fun _=>?_|refine zr ?_)
      all_goals conv=>whnf
      exact ret_boolD (dec_ret (hP2.2 trivial))
    | cons h R =>
      have hlen := mid_len hp
      have hhl : h.length <= 1000000 := hs.2.2 h (by rw [hp]; simp)
      rw [holesOk] at hP2
      unfold holeOk at hP2
      have htk : ((s.holes.map rgV).take ((D.length : Nat) : Int).toNat) = D.map rgV := by rw [Int.toNat_natCast, hp]; simp
      repeat' ((conv=>whnf);first|(exfalso; omega)|refine idx_mid (l := s.holes) (A := D) (x := h) (B := R) hp (by omega) ?_|refine zc (allS_spec h s.outer 2 hhl hs.1) ?_|refine zc (apartR_spec h s.outer hhl hs.1) ?_|refine need_i ⟨by omega, by omega, by omega, .inl rfl⟩ ?_|refine zg ?_|refine zo ?_|refine zn ?_|refine zz (fun _=>?_) fun _=>?_|refine zr ?_)
      all_goals conv=>whnf
      all_goals first
        | (refine ret_boolD (dec_retf ?_); rw [hP2]; intro h; obtain ⟨⟨h1, h2, h3⟩, h4⟩ := h; contradiction)
        | skip
      refine loop_2 (A := List Rg) (B := List Rg) (fun E S => mkSt [(1, .box 1 0), (2, .box 2 0), (6, rgV h), (26, .sl (s.holes.map rgV)), (27, I s.holes.length), (28, I D.length), (48, .sl (List.drop (Int.toNat 0) (List.take ((D.length : Nat) : Int).toNat (List.map rgV s.holes)))), (49, I (List.drop (Int.toNat 0) (List.take ((D.length : Nat) : Int).toNat (List.map rgV s.holes))).length), (50, I E.length)] [(1, (shV s).cells), (2, [.lit (.bool false)])] []) (fun E S => D = E ++ S /\ ∀ k ∈ E, apartR h k /\ allAt h k 0 /\ allAt k h 0) (fun E S => S.length) [] D ?_ ⟨rfl, by simp⟩ (fun E S hq => ?_)
      · exact zj
      obtain ⟨hq, hE⟩ := hq
      have hX : (List.drop (Int.toNat 0) (List.take ((D.length : Nat) : Int).toNat (List.map rgV s.holes))) = D.map rgV := htk
      have hXl : (List.drop (Int.toNat 0) (List.take ((D.length : Nat) : Int).toNat (List.map rgV s.holes))).length = D.length := by rw [hX, List.length_map]
      cases S with
      | nil =>
        have hlen2 : D.length = E.length := by rw [hq]; simp
        have hDE : D = E := by rw [hq]; simp
        repeat' ((conv=>whnf);first|(exfalso; omega)|refine zg ?_|refine za ?_|refine zz (fun _=>?_) fun _=>?_)
        all_goals conv=>whnf
        refine ⟨(D ++ [h], R), ?_, ⟨by rw [hp]; simp, ?_⟩, by simp⟩
        · simp only [List.length_append, List.length_singleton]
          exact zj
        · rw [hP2]
          exact ⟨fun q => q.2, fun q => ⟨⟨by assumption, by assumption, by rw [hDE]; exact hE⟩, q⟩⟩
      | cons k S =>
        have hlen2 := mid_len hq
        have hkl : k.length <= 1000000 := hs.2.2 k (by rw [hp, hq]; simp)
        repeat' ((conv=>whnf);first|(exfalso; omega)|refine idx_eq (l := D) (A := E) (x := k) (B := S) hX hq (by omega) ?_|refine zc (apartR_spec h k hhl hkl) ?_|refine zc (allS_spec h k 0 hhl hkl) ?_|refine zc (allS_spec k h 0 hkl hhl) ?_|refine zg ?_|refine za ?_|refine zo ?_|refine zn ?_|refine zz (fun _=>?_) fun _=>?_|refine zr ?_)
        all_goals conv=>whnf
        all_goals first
          | (refine ret_boolD (dec_retf ?_); rw [hP2]; intro q; have q1 := q.1.2.2 k (by rw [hq]; simp); obtain ⟨q2, q3, q4⟩ := q1; contradiction)
          | skip
        refine ⟨(E ++ [k], S), ?_, ⟨by rw [hq]; simp, fun z hz => ?_⟩, by simp⟩
        · simp only [List.length_append, List.length_singleton]
          exact zj
        · rcases List.mem_append.1 hz with hz | hz
          · exact hE z hz
          · rw [List.mem_singleton.1 hz]
            exact ⟨by assumption, by assumption, by assumption⟩
theorem area2S_t {s : Sh} (h : shapeOk s) : area2S s = lessAreas (W (2 * area2R s.outer)) (rings s) := if_pos h
theorem area2S_f {s : Sh} (h : ¬ shapeOk s) : area2S s = 0 := if_neg h
theorem less_snoc (n : Int) (D : List Rg) (r : Rg) : lessAreas n (D ++ [r]) = W (lessAreas n D - area2R r) := by unfold lessAreas; rw [List.foldl_append]; rfl
theorem area2S_spec (s : Sh) (hs : Sized s) : Sp 99 [shV s] (I (area2S s)) := by
  refine zsp Tryz.func99 ?_
  have h1 := area2S_t (s := s)
  have h2 := area2S_f (s := s)
  generalize area2S s = A at *
  have ho : s.outer.length <= 1000000 := hs.1
  repeat' ((conv=>whnf);first|refine zc (shapeOk_spec s hs) ?_|refine zc (area2R_spec s.outer hs.1) ?_|refine zc (ringsF_spec s) ?_|refine zg ?_|refine zw ?_|refine zn ?_|refine zz (fun _=>?_) fun _=>?_|refine zr ?_)
  all_goals conv=>whnf
  all_goals first
    | exact ret_int (h2 (by assumption)).symm
    | skip
  have hA := h1 (by assumption)
  refine range_2 (ritems s) (rings_spec s hs.2.1) (ritems_one s) (A := List Rg) (B := List Rg) (fun D R => mkSt [(1, .box 1 0), (3, .box 3 0), (13, .fn 230 [.fp (shV s).cells])] [(1, (shV s).cells), (3, [I (lessAreas (W (2 * area2R s.outer)) D)])] [])
    (fun k D R => rings s = D ++ R /\ D.length = k) [] (rings s) ?_ ⟨rfl, rfl⟩ rfl ?_ ?_
  · exact zj
  · rintro k D R it ⟨hp, hk⟩ hit
    subst hk
    obtain ⟨r, R', rfl, rfl⟩ := ritems_k hp hit
    have hrl : r.length <= 1000000 := hs.mem (by rw [hp]; simp)
    have es := less_snoc (W (2 * area2R s.outer)) D r
    generalize W (2 * area2R s.outer) = a0 at *
    repeat' ((conv=>whnf);first|refine zc (area2R_spec r hrl) ?_|refine zi ?_|refine zw ?_)
    all_goals conv=>whnf
    refine ⟨(D ++ [r], R'), ?_, by rw [hp]; simp, by simp⟩
    simp only [es]
    exact zj
  · rintro D R ⟨hp, hk⟩
    have hRn : R = [] := by
      have h1 : (ritems s).length = (rings s).length := by unfold ritems; simp
      have h2 : (rings s).length = D.length + R.length := by rw [hp]; simp
      exact List.length_eq_zero_iff.1 (by omega)
    subst hRn
    rw [List.append_nil] at hp
    subst hp
    generalize W (2 * area2R s.outer) = a0 at *
    repeat' ((conv=>whnf);first|refine zg ?_|refine zr ?_)
    all_goals conv=>whnf
    exact ret_int hA.symm
theorem whereSP_f {s : Sh} {p : Pt} (h : ¬ shapeOk s) : whereSP s p = 0 := if_neg h
theorem whereSP_o {s : Sh} {p : Pt} (h : shapeOk s) (h2 : ¬ whereP s.outer p = 2) : whereSP s p = whereP s.outer p := by unfold whereSP; rw [if_pos h, if_neg h2]
theorem whereSP_i {s : Sh} {p : Pt} (h : shapeOk s) (h2 : whereP s.outer p = 2) : whereSP s p = whereH 2 p s.holes := by unfold whereSP; rw [if_pos h, if_pos h2]
theorem whereH_2 {o : Int} {p : Pt} {h : Rg} {l : List Rg} (q : whereP h p = 2) : whereH o p (h :: l) = 0 := by rw [whereH, if_pos q]
theorem whereH_1 {o : Int} {p : Pt} {h : Rg} {l : List Rg} (q : whereP h p = 1) : whereH o p (h :: l) = 1 := by rw [whereH, if_neg (by omega), if_pos q]
theorem whereH_0 {o : Int} {p : Pt} {h : Rg} {l : List Rg} (q : ¬ whereP h p = 2) (q2 : ¬ whereP h p = 1) : whereH o p (h :: l) = whereH o p l := by rw [whereH, if_neg q, if_neg q2]
theorem whereSP_spec (s : Sh) (p : Pt) (hs : Sized s) : Sp 339 [shV s, ptV p] (I (whereSP s p)) := by
  refine zsp Tryz.func339 ?_
  have h1 := whereSP_f (s := s) (p := p)
  have h2 := whereSP_o (s := s) (p := p)
  have h3 := whereSP_i (s := s) (p := p)
  have hw := whereP_spec s.outer p hs.1
  have hmm : (s.holes.map rgV).length = s.holes.length := by simp
  have hhl := hs.2.1
  generalize whereSP s p = A at *
  generalize whereP s.outer p = wo at *
  repeat' ((conv=>whnf);first|refine zc (shapeOk_spec s hs) ?_|refine zc hw ?_|refine zg ?_|refine zn ?_|refine zz (fun _=>?_) fun _=>?_|refine zr ?_)
  all_goals conv=>whnf
  all_goals first
    | exact ret_int (h1 (by assumption)).symm
    | exact ret_int (h2 (by assumption) (by assumption)).symm
    | skip
  have hA := h3 (by assumption) (by assumption)
  refine loop_2 (A := List Rg) (B := List Rg) (fun D R => mkSt [(3, .box 3 0), (5, I wo), (19, .sl (s.holes.map rgV)), (20, I s.holes.length), (21, I D.length)] [(3, (ptV p).cells)] []) (fun D R => s.holes = D ++ R /\ A = whereH 2 p R) (fun D R => R.length) [] s.holes ?_ ⟨rfl, hA⟩ (fun D R hp => ?_)
  · refine le_mk ?_ ?_ ?_ ?_
    all_goals repeat' (first | exact trivial | refine And.intro ?_ ?_ | with_reducible rfl | exact (fun h => by cases h) | exact Nat.le_refl _ | omega | exact rfl)
    all_goals (try rw [List.length_map])
  obtain ⟨hp, hA⟩ := hp
  cases R with
  | nil =>
    have hlen : s.holes.length = D.length := by rw [hp]; simp
    repeat' ((conv=>whnf);first|(exfalso; omega)|refine zg ?_|refine zz (fun _=>?_) fun _=>?_|refine zr ?_)
    all_goals conv=>whnf
    exact ret_int (by rw [hA]; show _ = (2 : Int); omega)
  | cons h R =>
    have hlen := mid_len hp
    have hl : h.length <= 1000000 := hs.2.2 h (by rw [hp]; simp)
    have g2 := whereH_2 (o := 2) (p := p) (h := h) (l := R)
    have g1 := whereH_1 (o := 2) (p := p) (h := h) (l := R)
    have g0 := whereH_0 (o := 2) (p := p) (h := h) (l := R)
    have hwh := whereP_spec h p hl
    rw [<- hA] at g0 g1 g2
    generalize whereP h p = wh at *
    repeat' ((conv=>whnf);first|(exfalso; omega)|refine idx_mid (l := s.holes) (A := D) (x := h) (B := R) hp (by omega) ?_|refine zc hwh ?_|refine zg ?_|refine za ?_|refine zo ?_|refine zz (fun _=>?_) fun _=>?_|refine zr ?_)
    all_goals conv=>whnf
    all_goals first
      | exact ret_int (g2 (by assumption)).symm
      | exact ret_int (g1 (by assumption)).symm
      | skip
    refine ⟨(D ++ [h], R), ?_, ⟨by rw [hp]; simp, g0 (by assumption) (by assumption)⟩, by simp⟩
    simp only [List.length_append, List.length_singleton]
    exact zj
theorem whereS_t {s : Sh} {v : Vc} (h : within v 4000) : whereS s v = whereSP s (v.1, v.2, 1) := if_pos h
theorem whereS_f {s : Sh} {v : Vc} (h : ¬ within v 4000) : whereS s v = 0 := if_neg h
theorem whereS_spec (s : Sh) (v : Vc) (hs : Sized s) : Sp 287 [shV s, vcV v] (I (whereS s v)) := by
  refine zsp Tryz.func287 ?_
  have h1 := whereS_t (s := s) (v := v)
  have h2 := whereS_f (s := s) (v := v)
  generalize whereS s v = A at *
  repeat' ((conv=>whnf);first|refine zc (within_spec v 4000) ?_|refine zc (pointOf_spec v) ?_|refine zc (whereSP_spec s (v.1, v.2, 1) hs) ?_|refine zg ?_|refine zi ?_|refine zn ?_|refine zz (fun _=>?_) fun _=>?_|refine zr ?_)
  all_goals conv=>whnf
  all_goals first
    | exact ret_int (h2 (by assumption)).symm
    | exact ret_int (h1 (by assumption)).symm
open Classical in
noncomputable def boxS (s : Sh) : Bx × Bool := if shapeOk s then boxR s.outer else (((0, 0), (0, 0)), false)
theorem boxS_t {s : Sh} (h : shapeOk s) : boxS s = boxR s.outer := if_pos h
theorem boxS_f {s : Sh} (h : ¬ shapeOk s) : boxS s = (((0, 0), (0, 0)), false) := if_neg h
theorem boxS_spec (s : Sh) (hs : Sized s) : Sp 94 [shV s] (.tup [bxV (boxS s).1, .lit (.bool (boxS s).2)]) := by
  refine zsp Tryz.func94 ?_
  have h1 := boxS_t (s := s)
  have h2 := boxS_f (s := s)
  have hb := boxR_spec s.outer hs.1
  generalize boxS s = A at *
  generalize boxR s.outer = B at *
  repeat' ((conv=>whnf);first|refine zc (shapeOk_spec s hs) ?_|refine zc hb ?_|refine zg ?_|refine zn ?_|refine zd (fun hd=>?_) (fun hd=>?_)|refine zr ?_)
  · rw [h1 hd]
    all_goals conv=>whnf
    all_goals first|exact ret_int rfl|exact ret_bool rfl|exact ret_lit rfl|exact zt|exact zu
  · rw [h2 hd]
    all_goals conv=>whnf
    all_goals first|exact ret_int rfl|exact ret_bool rfl|exact ret_lit rfl|exact zt|exact zu
theorem need_nil {xs : List V} {bytes size : Nat} {K : Prop} (hb : bytes <= 10000) (h5 : ∀ x ∈ xs, x.cells.length = size) (h4 : xs.length <= 1000000000) (hk : K) : need (xs.length * bytes <= 140737488355328 /\ xs.length <= 140737488355328 /\ ∀ x ∈ xs, x.cells.length = size) K := by
  have := Nat.mul_le_mul h4 hb
  exact need_i ⟨by omega, by omega, h5⟩ hk
def d0 (D : List Rg) (r : Rg) : List Rg := D ++ [r]
noncomputable def edgSt (s : Sh) (D : List Rg) : St := match D with
  | [] => mkSt [(1, .box 1 0), (3, .box 3 0), (6, .fn 230 [.fp (shV s).cells])] [(1, (shV s).cells), (3, [nilV])] []
  | d :: D => mkSt [(1, .box 1 0), (3, .box 3 0), (6, .fn 230 [.fp (shV s).cells])] [(1, (shV s).cells), (3, [.arr 11 D.length])] [(11, ⟨D.length, .own, 298, ((d :: D).flatMap edges).map sgV⟩)]
theorem edges_cells (l : List Sg) : ∀ y ∈ l.map sgV, y.cells.length = 4 := fun y hy => by obtain ⟨m, _, rfl⟩ := List.mem_map.1 hy; rfl
theorem edges_bound {r : Rg} (h : r.length <= 1000000) : ((edges r).map sgV).length <= 1000000 := by rw [List.length_map]; exact edges_le h
theorem flat_bound {s : Sh} (hs : Sized s) (h7 : s.holes.length <= 6) {D R : List Rg} (hp : rings s = D ++ R) : (D.flatMap edges).length <= 7000000 := by
  have h1 : ∀ (E : List Rg), (∀ r ∈ E, (edges r).length <= 1000000) -> (E.flatMap edges).length <= 1000000 * E.length := by
    intro E
    induction E with
    | nil => intro _; simp
    | cons e E ih =>
      intro h
      have a := h e (by simp)
      have b := ih (fun r hr => h r (by simp [hr]))
      rw [List.flatMap_cons, List.length_append, List.length_cons]
      omega
  have h2 := h1 D (fun r hr => edges_le (hs.mem (by rw [hp]; simp [hr])))
  have h3 : (rings s).length = D.length + R.length := by rw [hp]; simp
  have h4 : (rings s).length = s.holes.length + 1 := by unfold rings; simp
  omega
theorem edgesS_spec (s : Sh) (hs : Sized s) (h7 : s.holes.length <= 6) : Sp 282 [shV s] (.own 298 ((edgesS s).map sgV)) := by
  refine zsp Tryz.func282 ?_
  repeat' ((conv=>whnf);first|refine zc (ringsF_spec s) ?_|refine zg ?_)
  all_goals conv=>whnf
  refine range_2 (ritems s) (rings_spec s hs.2.1) (ritems_one s) (A := List Rg) (B := List Rg) (fun D R => edgSt s D)
    (fun k D R => rings s = D ++ R /\ D.length = k) [] (rings s) ?_ ⟨rfl, rfl⟩ rfl ?_ ?_
  · exact zj
  · rintro k D R it ⟨hp, hk⟩ hit
    subst hk
    obtain ⟨r, R', rfl, rfl⟩ := ritems_k hp hit
    have hrl : r.length <= 1000000 := hs.mem (by rw [hp]; simp)
    have hfb := flat_bound hs h7 hp
    have heb := edges_bound hrl
    have hff : (((d0 D r : List Rg).flatMap edges).map sgV) = (D.flatMap edges).map sgV ++ (edges r).map sgV := by unfold d0; simp
    cases D with
    | nil =>
      repeat' ((conv=>whnf);first|refine zc (edges_spec r hrl) ?_|refine need_nil (of_decide_eq_true rfl) (edges_cells _) (show ((edges r).map sgV).length <= 1000000000 by omega) ?_|refine zi ?_|refine zv ?_)
      all_goals conv=>whnf
      refine ⟨([r], R'), ?_, by rw [hp]; rfl, rfl⟩
      show Le T _ (mkSt [(1, .box 1 0), (3, .box 3 0), (6, .fn 230 [.fp (shV s).cells])] [(1, (shV s).cells), (3, [.arr 11 0])] [(11, ⟨0, .own, 298, (([r] : List Rg).flatMap edges).map sgV⟩)])
      rw [show ([r] : List Rg).flatMap edges = edges r by simp]
      exact zj
    | cons d D =>
      have hfl : (((d :: D).flatMap edges).map sgV).length = ((d :: D).flatMap edges).length := List.length_map ..
      repeat' ((conv=>whnf);first|refine zc (edges_spec r hrl) ?_|refine need_app rfl (.inl rfl) rfl (of_decide_eq_true rfl) (edges_cells _) (show (((d :: D).flatMap edges).map sgV).length + ((edges r).map sgV).length <= 1000000000 by omega) ?_|refine zi ?_|refine zv ?_)
      all_goals conv=>whnf
      refine ⟨(d :: D ++ [r], R'), ?_, by rw [hp]; simp, by simp⟩
      show Le T _ (mkSt [(1, .box 1 0), (3, .box 3 0), (6, .fn 230 [.fp (shV s).cells])] [(1, (shV s).cells), (3, [.arr 11 (D ++ [r]).length])] [(11, ⟨(D ++ [r]).length, .own, 298, (((d :: D) ++ [r]).flatMap edges).map sgV⟩)])
      rw [show ((d :: D) ++ [r]) = d0 (d :: D) r from rfl, hff, List.length_append, List.length_singleton]
      exact zj
  · rintro D R ⟨hp, hk⟩
    have hRn : R = [] := by
      have h1 : (ritems s).length = (rings s).length := by unfold ritems; simp
      have h2 : (rings s).length = D.length + R.length := by rw [hp]; simp
      exact List.length_eq_zero_iff.1 (by omega)
    subst hRn
    rw [List.append_nil] at hp
    unfold edgesS
    cases D with
    | nil => exact absurd hp (by unfold rings; simp)
    | cons d D =>
      rw [hp]
      repeat' ((conv=>whnf);first|refine zg ?_|refine zr ?_)
      all_goals conv=>whnf
      exact ⟨⟨⟨rfl, rfl, rfl, rfl⟩, trivial⟩, rfl, fun _ h => by cases h⟩
end Go.Proofs.Led
