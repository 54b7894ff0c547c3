/-
  Rings: corners, area, edges, walked.
-/
import Derived.Test.YtkhhdojgbkophaaGreatTV4
import Derived.Test.YtkhhdojgbkophaaGreatH18
set_option linter.unusedVariables false
set_option linter.unusedSimpArgs false
namespace Go.Proofs.Led
open Go Go.Proofs Go.Ab
set_option maxRecDepth 100000
set_option maxHeartbeats 2000000
theorem vcI_vc {g : FuncId}  {Q : Vc -> Prop} (hg : ∀ m, Sp g (vcV m :: []) (DB (Q m))) (l : List Vc) (hl : l.length <= 1000000) : fnVC T Tryz.prog Tryz.f337 [.sl (l.map vcV), .fn g []] (I (fstI Q l)) := by
  have hll : (l.map vcV).length = l.length := by simp
  repeat' ((conv=>whnf);first|refine zg ?_)
  refine loop_2 (A := List Vc) (B := List Vc) (fun D R => mkSt [(0, .sl (l.map vcV)), (1, .fn g []), (7, I l.length), (8, I D.length)] [] [])
    (fun D R => l = D ++ R /\ ∀ m ∈ D, ¬ Q m) (fun D R => R.length) [] l ?_ ⟨rfl, by simp⟩ (fun D R hp => ?_)
  · exact zj
  · obtain ⟨h1, h2⟩ := hp
    have hlen : l.length = D.length + R.length := by rw [h1]; simp
    have hD : ∀ y ∈ D, (!decB (Q y)) = true := fun y hy => by rw [decB_f.2 (h2 y hy)]; rfl
    cases R with
    | nil =>
      have e : l = D := by rw [h1]; simp
      simp at hlen
      repeat' ((conv=>whnf);first|(exfalso; omega)|refine zg ?_|refine zl (fun hlt=>?_) (fun hlt=>?_)|refine zr ?_)
      conv => whnf
      refine ret_int ?_
      unfold fstI
      rw [if_neg (fst_none.2 (by rw [e]; exact h2))]
    | cons x R =>
      rw [List.length_cons] at hlen
      repeat' ((conv=>whnf);first|(exfalso; omega)|refine idx_mid (l := l) (A := D) (x := x) (B := R) h1 (by omega) ?_|refine zc (hg x) ?_|refine zg ?_|refine za ?_|refine zo ?_|refine zd (fun hd=>?_) (fun hd=>?_)|refine zl (fun hlt=>?_) (fun hlt=>?_)|refine zr ?_)
      · conv => whnf
        refine ret_int ?_
        have e : fst Q l = D.length := by unfold fst; rw [h1]; exact tw_stop hD (by rw [decB_t.2 hd]; rfl)
        unfold fstI
        rw [e, if_pos (by omega)]
      · conv => whnf
        refine ⟨(D ++ [x], R), ?_, ⟨?_, ?_⟩, ?_⟩
        · refine le_mk ?_ ?_ ?_ ?_
          all_goals repeat' (first | exact trivial | refine And.intro ?_ ?_ | with_reducible rfl | exact (fun h => by cases h) | exact Nat.le_refl _ | omega | exact rfl)
          · show (D.length : Int) + 1 = (D ++ [x]).length
            simp
        · show l = D ++ [x] ++ R
          rw [h1]; simp
        · intro m hm
          rcases List.mem_append.1 hm with hm | hm
          · exact h2 m hm
          · rw [List.mem_singleton.1 hm]; exact hd
        · show R.length < (x :: R).length
          simp
theorem vcI_spec {g : FuncId}  {Q : Vc -> Prop} (hg : ∀ m, Sp g (vcV m :: []) (DB (Q m))) (l : List Vc) (hl : l.length <= 1000000) : Sp 337 [.sl (l.map vcV), .fn g []] (I (fstI Q l)) := zsp Tryz.func337 (vcI_vc hg l hl)
theorem vcC_vc {g : FuncId}  {Q : Vc -> Prop} (hg : ∀ m, Sp g (vcV m :: []) (DB (Q m))) (l : List Vc) (hl : l.length <= 1000000) : fnVC T Tryz.prog Tryz.f284 [.sl (l.map vcV), .fn g []] (DB (∃ m ∈ l, Q m)) := by
  repeat' ((conv=>whnf);first|refine zc (vcI_spec hg l hl) ?_|refine zg ?_|refine zr ?_)
  conv => whnf
  refine ret_boolD (le_dec ?_)
  have h := fst_none (Q := Q) (l := l)
  unfold fstI
  constructor
  · intro h0
    split at h0
    · rename_i hlt
      exact Classical.byContradiction fun hn => (h.2 (fun m hm hq => hn ⟨m, hm, hq⟩)) hlt
    · omega
  · rintro ⟨m, hm, hq⟩
    split
    · omega
    · rename_i hlt
      exact (h.1 hlt m hm hq).elim
theorem vcC_spec {g : FuncId}  {Q : Vc -> Prop} (hg : ∀ m, Sp g (vcV m :: []) (DB (Q m))) (l : List Vc) (hl : l.length <= 1000000) : Sp 284 [.sl (l.map vcV), .fn g []] (DB (∃ m ∈ l, Q m)) := zsp Tryz.func284 (vcC_vc hg l hl)
theorem Meet_spec (s t : Sg) : Sp 271 [sgV s, sgV t] (I (meetK s t)) := by
  refine zsp Tryz.func271 ?_
  repeat' ((conv=>whnf);first|refine zc (meetC_spec s t) ?_|refine zg ?_|refine zr ?_)
  all_goals conv=>whnf
  all_goals first|exact ret_int rfl|exact ret_bool rfl|exact ret_lit rfl|exact zt|exact zu
theorem far_spec (v : Vc) : Sp 318 [vcV v] (DB (¬ within v 2000)) := by
  refine zsp Tryz.func318 ?_
  repeat' ((conv=>whnf);first|refine zc (within_spec v 2000) ?_|refine zg ?_|refine zr ?_)
  all_goals conv=>whnf
  all_goals refine ret_boolD (not_dec decB_f)
theorem near_spec (r : Rg) (hl : r.length <= 1000000) : Sp 266 [rgV r] (DB (nearR r)) := by
  refine zsp Tryz.func266 ?_
  repeat' ((conv=>whnf);first|refine zc (vcC_spec (fun v => far_spec v) r hl) ?_|refine zg ?_|refine zr ?_)
  all_goals conv=>whnf
  all_goals refine ret_boolD (not_dec ?_)
  rw [decB_f]
  unfold nearR
  constructor
  · intro h v hv
    exact Classical.byContradiction fun hn => h ⟨v, hv, hn⟩
  · rintro h ⟨v, hv, hn⟩
    exact hn (h v hv)
theorem tmod_nat {z : Int} {a n : Nat} (h : z = (a : Int)) : z.tmod (n : Int) = ((a % n : Nat) : Int) := by
  subst h
  rw [Int.tmod_eq_emod_of_nonneg (by omega)]
  rfl
theorem getD_some {r : Rg} {k : Nat} (h : k < r.length) : r[k]? = some (r.getD k z0) := by
  rw [List.getD_eq_getElem?_getD, List.getElem?_eq_getElem h]; rfl
theorem idx_mod {r : Rg} {z : Int} {k : Nat} {K : V -> Prop} (hz : z = (k : Int)) (h : k < r.length) (hk : K (vcV (r.getD k z0))) : idx (r.map vcV) z.toNat K :=
  idx_at (l := r) (getD_some h) (by omega) hk
theorem tmod_len {r : Rg} {z : Int} {a : Nat} (h : z = (a : Int)) : z.tmod ((r.map vcV).length : Int) = ((a % r.length : Nat) : Int) := by rw [len_map, tmod_nat h]
theorem next_spec (r : Rg) (i : Nat) (hi : i < r.length) (hl : r.length <= 1000000) : Sp 269 [rgV r, I i] (vcV (nextV r i)) := by
  refine zsp Tryz.func269 ?_
  have hll : (r.map vcV).length = r.length := by simp
  have hm : (i + 1) % r.length < r.length := Nat.mod_lt _ (by omega)
  repeat' ((conv=>whnf);first|refine need_rem (by omega) ?_|refine need_len (l := r) (by rw [tmod_len (a := i + 1) (by omega)]; omega) ?_|refine idx_mod (k := (i + 1) % r.length) (tmod_len (by omega)) hm ?_|refine zg ?_|refine za ?_|refine zr ?_)
  all_goals conv=>whnf
  all_goals first|exact ret_int rfl|exact ret_bool rfl|exact ret_lit rfl|exact zt|exact zu
theorem last_spec (r : Rg) (i : Nat) (hi : i < r.length) (hl : r.length <= 1000000) : Sp 268 [rgV r, I i] (vcV (lastV r i)) := by
  refine zsp Tryz.func268 ?_
  have hll : (r.map vcV).length = r.length := by simp
  have hm : (i + r.length - 1) % r.length < r.length := Nat.mod_lt _ (by omega)
  repeat' ((conv=>whnf);first|refine need_rem (by omega) ?_|refine need_len (l := r) (by rw [tmod_len (a := i + r.length - 1) (by omega)]; omega) ?_|refine idx_mod (k := (i + r.length - 1) % r.length) (tmod_len (by omega)) hm ?_|refine zg ?_|refine za ?_|refine zr ?_)
  all_goals conv=>whnf
  all_goals first|exact ret_int rfl|exact ret_bool rfl|exact ret_lit rfl|exact zt|exact zu
theorem idx_D {r : Rg} {z : Int} {k : Nat} {K : V -> Prop} (hz : z = (k : Int)) (h : k < r.length) (hk : K (vcV (r.getD k z0))) : idx (r.map vcV) z.toNat K := idx_mod hz h hk
theorem area_spec (r : Rg) (hl : r.length <= 1000000) : Sp 229 [rgV r] (I (areaR r)) := by
  refine zsp Tryz.func229 ?_
  have hll : (r.map vcV).length = r.length := by simp
  repeat' ((conv=>whnf);first|refine zg ?_)
  refine loop_i (A := Nat) (fun k => mkSt [(0, rgV r), (3, I (areaN r k)), (6, rgV r), (7, I r.length), (8, I k)] [] []) (fun k => k <= r.length) (fun k => r.length - k) 0 ?_ (by omega) (fun k hk => ?_)
  · exact zj
  have hn := next_spec r k
  have hs := areaN_succ r k
  by_cases hkr : k < r.length
  · repeat' ((conv=>whnf);first|(exfalso; omega)|refine need_len (l := r) (by omega) ?_|refine idx_D (k := k) (by omega) hkr ?_|refine zc (hn hkr hl) ?_|refine zc (vcross_spec (r.getD k z0) (nextV r k)) ?_|refine zg ?_|refine zi ?_|refine za ?_|refine zw ?_|refine zz (fun _=>?_) fun _=>?_)
    all_goals conv=>whnf
    refine ⟨k + 1, ?_, by omega, by omega⟩
    simp only [hs]
    exact zj
  · have e : k = r.length := by omega
    subst e
    repeat' ((conv=>whnf);first|(exfalso; omega)|refine zg ?_|refine zz (fun _=>?_) fun _=>?_|refine zr ?_)
    all_goals conv=>whnf
    all_goals first|exact ret_int rfl|exact ret_bool rfl|exact ret_lit rfl|exact zt|exact zu
def edgeN (r : Rg) (k : Nat) : List Sg := (List.range k).map (edgeAt r)
theorem edgeN_succ (r : Rg) (k : Nat) : (edgeN r k).map sgV ++ [sgV (edgeAt r k)] = (edgeN r (k + 1)).map sgV := by unfold edgeN; rw [List.range_succ]; simp
theorem edgeN_len (r : Rg) (k : Nat) : ((edgeN r k).map sgV).length = k := by unfold edgeN; simp
noncomputable def edgeSt (r : Rg) (k : Nat) : St := match k with
  | 0 => mkSt [(0, rgV r), (3, nilV), (9, rgV r), (10, I r.length), (11, I 0)] [] []
  | k + 1 => mkSt [(0, rgV r), (3, .arr 23 k), (9, rgV r), (10, I r.length), (11, I ((k : Int) + 1))] [] [(23, ⟨k, .own, 298, (edgeN r (k + 1)).map sgV⟩)]
theorem edges_short {r : Rg} (h : r.length < 2) : edges r = [] := if_pos h
theorem edges_long {r : Rg} (h : ¬ r.length < 2) : edges r = edgeN r r.length := if_neg h
theorem edges_spec (r : Rg) (hl : r.length <= 1000000) : Sp 270 [rgV r] (.own 298 ((edges r).map sgV)) := by
  refine zsp Tryz.func270 ?_
  have hll : (r.map vcV).length = r.length := by simp
  have h1 := edges_short (r := r)
  have h2 := edges_long (r := r)
  by_cases hr : r.length < 2
  · rw [h1 hr]
    repeat' ((conv=>whnf);first|(exfalso; omega)|refine zg ?_|refine zz (fun _=>?_) fun _=>?_|refine zr ?_)
    all_goals conv=>whnf
    exact ⟨⟨⟨of_decide_eq_true (by kernel_rfl), rfl⟩, trivial⟩, rfl, fun _ h => by cases h⟩
  rw [h2 hr]
  repeat' ((conv=>whnf);first|(exfalso; omega)|refine zg ?_|refine zz (fun _=>?_) fun _=>?_)
  refine loop_i (A := Nat) (edgeSt r) (fun k => k <= r.length) (fun k => r.length - k) 0 ?_ (by omega) (fun k hk => ?_)
  · exact zj
  have hn := next_spec r k
  have hs := edgeN_succ r k
  have hlen := edgeN_len r k
  match k with
  | 0 =>
    repeat' ((conv=>whnf);first|(exfalso; omega)|refine need_len (l := r) (by omega) ?_|refine idx_D (k := 0) (by omega) (by omega) ?_|refine zc (hn (by omega) hl) ?_|refine need_i ⟨of_decide_eq_true (by kernel_rfl), of_decide_eq_true (by kernel_rfl), one_cells rfl⟩ ?_|refine zg ?_|refine zi ?_|refine za ?_|refine zv ?_|refine zz (fun _=>?_) fun _=>?_)
    all_goals conv=>whnf
    refine ⟨1, ?_, by omega, by omega⟩
    exact zj
  | k + 1 =>
    have hlen' := edgeN_len r (k + 1)
    have h4 : (List.map sgV (edgeN r (k + 1))).length + 1 <= 1000000000 := by omega
    by_cases hkr : k + 1 < r.length
    · repeat' ((conv=>whnf);first|(exfalso; omega)|refine need_len (l := r) (by omega) ?_|refine idx_D (k := k + 1) (by omega) hkr ?_|refine zc (hn hkr hl) ?_|refine need_app rfl (.inl rfl) rfl (of_decide_eq_true rfl) (one_cells rfl) h4 ?_|refine zg ?_|refine zi ?_|refine za ?_|refine zv ?_|refine zz (fun _=>?_) fun _=>?_)
      all_goals conv=>whnf
      refine ⟨k + 2, ?_, by omega, by omega⟩
      show Le T _ (mkSt [(0, rgV r), (3, .arr 23 (k + 1)), (9, rgV r), (10, I r.length), (11, I (((k + 1 : Nat) : Int) + 1))] [] [(23, ⟨k + 1, .own, 298, (edgeN r (k + 1 + 1)).map sgV⟩)])
      rw [<- hs]
      exact zj
    · have e : k + 1 = r.length := by omega
      rw [<- e]
      repeat' ((conv=>whnf);first|(exfalso; omega)|refine zg ?_|refine zz (fun _=>?_) fun _=>?_|refine zr ?_)
      all_goals conv=>whnf
      exact ⟨⟨⟨rfl, rfl, rfl, rfl⟩, trivial⟩, rfl, fun _ h => by cases h⟩
end Go.Proofs.Led
namespace Go.Proofs.Led
open Go Go.Proofs Go.Ab
set_option maxRecDepth 100000
set_option maxHeartbeats 4000000
theorem edges_len {r : Rg} (h : 2 <= r.length) : (edges r).length = r.length := by
  rw [edges_long (by omega)]
  simp [edgeN]
theorem need_own {en : AE} {g : Nat} {z : Int} {K : Prop} (h1 : en.gen = g) (h2 : en.kind = .own) (h3 : 0 <= z /\ z < en.l.length) (hk : K) : need (en.gen = g /\ en.kind ≠ .dead /\ 0 <= z /\ z < en.l.length) K := need_i ⟨h1, (by rw [h2]; exact fun h => by cases h), h3.1, h3.2⟩ hk
theorem idx_sg {l : List Sg} {z : Int} {k : Nat} {K : V -> Prop} (hz : z = (k : Int)) (h : k < l.length) (hk : K (sgV (l.getD k (z0, z0)))) : idx (l.map sgV) z.toNat K := by
  subst hz
  refine idx_at (l := l) (j := k) (x := l.getD k (z0, z0)) ?_ (by omega) hk
  rw [List.getD_eq_getElem?_getD, List.getElem?_eq_getElem h]; rfl
theorem ringOk_spec (r : Rg) (hl : r.length <= 1000000) : Sp 211 [rgV r] (DB (ringOk r)) := by
  refine zsp Tryz.func211 ?_
  have hll : (r.map vcV).length = r.length := by simp
  generalize hP : ringOk r = P
  have hr : P ↔ ringOk r := by rw [hP]
  unfold ringOk at hr
  repeat' ((conv=>whnf);first|refine zc (near_spec r hl) ?_|refine zc (area_spec r hl) ?_|refine zg ?_|refine zn ?_|refine zz (fun _=>?_) fun _=>?_|refine zr ?_)
  all_goals conv=>whnf
  all_goals first
    | (refine ret_boolD (dec_retf ?_); rw [hr]; intro h; obtain ⟨h1, h2, h3, h4, h5, h6⟩ := h; first | omega | contradiction)
    | skip
  have h3 : 3 <= r.length := by omega
  have h40 : r.length <= 40 := by omega
  have hn : nearR r := by assumption
  have ha : 0 < areaR r := by omega
  refine loop_i (A := Nat) (fun k => mkSt [(0, rgV r), (3, I r.length), (27, rgV r), (28, I r.length), (29, I k)] [] []) (fun k => k <= r.length /\ ∀ i, i < k -> vturn (lastV r i) (r.getD i z0) (nextV r i) ≠ 0) (fun k => r.length - k) 0 ?_ ⟨by omega, fun i hi => by omega⟩ (fun k hk => ?_)
  · exact zj
  obtain ⟨hk, ht⟩ := hk
  have e1 := next_spec r k
  have e2 := last_spec r k
  by_cases hkr : k < r.length
  · repeat' ((conv=>whnf);first|(exfalso; omega)|refine need_len (l := r) (by omega) ?_|refine idx_D (k := k) (by omega) hkr ?_|refine zc (e1 hkr hl) ?_|refine zc (e2 hkr hl) ?_|refine zc (vturn_spec (lastV r k) (r.getD k z0) (nextV r k)) ?_|refine zg ?_|refine zi ?_|refine za ?_|refine zz (fun _=>?_) fun _=>?_|refine zr ?_)
    all_goals conv=>whnf
    · refine ret_boolD (dec_retf ?_)
      rw [hr]
      intro h
      exact h.2.2.2.2.1 k hkr (by assumption)
    · refine ⟨k + 1, ?_, ⟨by omega, fun i hi => ?_⟩, by omega⟩
      · exact zj
      · by_cases e : i = k
        · subst e; assumption
        · exact ht i (by omega)
  have ek : k = r.length := by omega
  subst ek
  have hel := edges_len (r := r) (by omega)
  have hee := edges_spec r hl
  generalize hE : edges r = E at *
  have hem : (E.map sgV).length = r.length := by rw [List.length_map]; exact hel
  repeat' ((conv=>whnf);first|(exfalso; omega)|refine zc hee ?_|refine zg ?_|refine zz (fun _=>?_) fun _=>?_)
  refine loop_i (A := Nat) (fun i => mkSt [(3, I r.length), (6, .arr 45 0), (46, I r.length), (47, I i)] [] [(45, ⟨0, .own, 298, E.map sgV⟩)]) (fun i => i <= r.length /\ ∀ i' k', i' < i -> i' < k' -> k' < r.length -> apartE E r.length i' k') (fun i => r.length - i) 0 ?_ ⟨by omega, fun i' k' hi => by omega⟩ (fun i hi => ?_)
  · exact zj
  obtain ⟨hi, hap⟩ := hi
  by_cases hir : i < r.length
  · repeat' ((conv=>whnf);first|(exfalso; omega)|refine zg ?_|refine za ?_|refine zz (fun _=>?_) fun _=>?_)
    refine loop_i (A := Nat) (fun k => mkSt [(3, I r.length), (6, .arr 45 0), (46, I r.length), (47, I i), (7, I i), (8, I k)] [] [(45, ⟨0, .own, 298, E.map sgV⟩)]) (fun k => i < k /\ k <= r.length /\ ∀ k', i < k' -> k' < k -> apartE E r.length i k') (fun k => r.length - k) (i + 1) ?_ ⟨by omega, by omega, fun k' h1 h2 => by omega⟩ (fun k hk => ?_)
    · exact zj
    obtain ⟨hk0, hk, hin⟩ := hk
    by_cases hkr : k < r.length
    · repeat' ((conv=>whnf);first|(exfalso; omega)|refine need_own rfl rfl (by show 0 <= _ /\ _ < ((E.map sgV).length : Int); omega) ?_|refine idx_sg (k := i) (by omega) (by omega) ?_|refine idx_sg (k := k) (by omega) (by omega) ?_|refine zc (Meet_spec (E.getD i (z0, z0)) (E.getD k (z0, z0))) ?_|refine zg ?_|refine zi ?_|refine za ?_|refine zn ?_|refine zv ?_|refine zz (fun _=>?_) fun _=>?_|refine zr ?_)
      all_goals conv=>whnf
      all_goals first
        | (refine ret_boolD (dec_retf ?_); rw [hr]; intro h; exact absurd (h.2.2.2.2.2 i k hk0 hkr (by omega) (by omega)) (by assumption))
        | skip
      all_goals
        refine ⟨k + 1, ?_, ⟨by omega, by omega, fun k' h1 h2 => ?_⟩, by omega⟩
        · exact zj
        · by_cases e : k' = k
          · subst e
            intro q1 q2
            first | assumption | (exfalso; omega)
          · exact hin k' h1 (by omega)
    · repeat' ((conv=>whnf);first|(exfalso; omega)|refine zg ?_|refine za ?_|refine zz (fun _=>?_) fun _=>?_)
      all_goals conv=>whnf
      refine ⟨i + 1, ?_, ⟨by omega, fun i' k' h1 h2 h3 => ?_⟩, by omega⟩
      · exact zj
      · by_cases e : i' = i
        · subst e
          exact hin k' h2 (by omega)
        · exact hap i' k' (by omega) h2 h3
  · have ei : i = r.length := by omega
    subst ei
    repeat' ((conv=>whnf);first|(exfalso; omega)|refine zg ?_|refine zz (fun _=>?_) fun _=>?_|refine zr ?_)
    all_goals conv=>whnf
    refine ret_boolD (dec_ret ?_)
    rw [hr]
    exact ⟨h3, h40, hn, ha, ht, fun i k h1 h2 => hap i k (by omega) h1 h2⟩
theorem area2R_t {r : Rg} (h : ringOk r) : area2R r = areaR r := if_pos h
theorem area2R_f {r : Rg} (h : ¬ ringOk r) : area2R r = 0 := if_neg h
theorem area2R_spec (r : Rg) (hl : r.length <= 1000000) : Sp 166 [rgV r] (I (area2R r)) := by
  refine zsp Tryz.func166 ?_
  have h1 := area2R_t (r := r)
  have h2 := area2R_f (r := r)
  generalize area2R r = A at *
  repeat' ((conv=>whnf);first|refine zc (ringOk_spec r hl) ?_|refine zc (area_spec r hl) ?_|refine zg ?_|refine zn ?_|refine zz (fun _=>?_) fun _=>?_|refine zr ?_)
  all_goals conv=>whnf
  all_goals first
    | exact ret_int (h2 (by assumption)).symm
    | exact ret_int (h1 (by assumption)).symm
theorem toP_spec (p : Pt) (v : Vc) : Sp 362 [vcV v, .fp (ptV p).cells] (vcV (toP p v)) := by
  refine zsp Tryz.func362 ?_
  repeat' ((conv=>whnf);first|refine zg ?_|refine zw ?_|refine zr ?_)
  all_goals conv=>whnf
  all_goals first|exact ret_int rfl|exact ret_bool rfl|exact ret_lit rfl|exact zt|exact zu
theorem eqBB_t {a b : Bool} : eqBB a b = true ↔ a = b := by unfold eqBB; simp
theorem br_ll {a b : Int} {A B : Prop} (h1 : (0 <= a ↔ 0 <= b) -> A) (h2 : ¬ (0 <= a ↔ 0 <= b) -> B) : branch (eqBB (leB 0 a) (leB 0 b)) A B := by
  have e : eqBB (leB 0 a) (leB 0 b) = true ↔ (0 <= a ↔ 0 <= b) := by rw [eqBB_t, Bool.eq_iff_iff, leB_t, leB_t]
  exact branch_s (fun h => h1 (e.1 h)) (fun h => h2 (fun q => by rw [e.2 q] at h; cases h))
theorem br_l2 {a b : Int} {A B : Prop} (h1 : (0 <= a ↔ 0 < b) -> A) (h2 : ¬ (0 <= a ↔ 0 < b) -> B) : branch (eqBB (leB 0 a) (ltB 0 b)) A B := by
  have e : eqBB (leB 0 a) (ltB 0 b) = true ↔ (0 <= a ↔ 0 < b) := by rw [eqBB_t, Bool.eq_iff_iff, leB_t, ltB_t]
  exact branch_s (fun h => h1 (e.1 h)) (fun h => h2 (fun q => by rw [e.2 q] at h; cases h))
theorem whereL_nil (p : Pt) : ∀ b : Bool, whereL p [] b = if b = true then 2 else 0 := fun b => by unfold whereL; rfl
theorem whereL_on {p : Pt} {e : Sg} {es : List Sg} {b : Bool} (h : onE p e) : whereL p (e :: es) b = 1 := by
  rw [whereL, if_pos h]
theorem whereL_flip {p : Pt} {e : Sg} {es : List Sg} {b : Bool} (h : ¬ onE p e) (h2 : flipE p e) : whereL p (e :: es) b = whereL p es (!b) := by
  rw [whereL, if_neg h, if_pos h2]
theorem whereL_keep {p : Pt} {e : Sg} {es : List Sg} {b : Bool} (h : ¬ onE p e) (h2 : ¬ flipE p e) : whereL p (e :: es) b = whereL p es b := by
  rw [whereL, if_neg h, if_neg h2]
theorem whereP_f {r : Rg} {p : Pt} (h : ¬ ringOk r \/ ¬ pointOk p) : whereP r p = 0 := if_neg (fun q => by rcases h with h | h <;> simp_all)
theorem whereP_t {r : Rg} {p : Pt} (h : ringOk r) (h2 : pointOk p) : whereP r p = whereL p (edges r) false := if_pos ⟨h, h2⟩
theorem whereP_spec (r : Rg) (p : Pt) (hl : r.length <= 1000000) : Sp 323 [rgV r, ptV p] (I (whereP r p)) := by
  refine zsp Tryz.func323 ?_
  have h1 := whereP_f (r := r) (p := p)
  have h2 := whereP_t (r := r) (p := p)
  have hee := edges_spec r hl
  generalize whereP r p = A at *
  generalize hE : edges r = E at *
  repeat' ((conv=>whnf);first|refine zc (ringOk_spec r hl) ?_|refine zc (pointOk_spec p) ?_|refine zc hee ?_|refine zg ?_|refine zn ?_|refine zv ?_|refine zz (fun _=>?_) fun _=>?_|refine zr ?_)
  all_goals conv=>whnf
  all_goals first
    | exact ret_int (h1 (by first | exact .inl ‹_› | exact .inr ‹_›)).symm
    | skip
  have hA := h2 (by assumption) (by assumption)
  clear h1 h2
  have hEl : E.length <= 1000000 := by
    rw [<- hE]
    unfold edges
    split <;> simp; omega
  clear hE hee
  refine loop_3 (A := List Sg) (B := List Sg) (C := Bool) (fun D R b => mkSt [(5, .fn 362 [.fp (ptV p).cells]), (6, .lit (.bool b)), (23, .arr 23 0), (24, I E.length), (25, I D.length)] [] [(23, ⟨0, .own, 298, E.map sgV⟩)]) (fun D R b => E = D ++ R /\ A = whereL p R b) (fun D R b => R.length) [] E false ?_ ⟨rfl, hA⟩ (fun D R b hp => ?_)
  · refine le_mk ?_ ?_ ?_ ?_
    all_goals repeat' (first | exact trivial | refine And.intro ?_ ?_ | with_reducible rfl | exact (fun h => by cases h) | exact Nat.le_refl _ | omega | exact rfl)
    all_goals (rw [List.length_map])
  obtain ⟨hp, hw⟩ := hp
  cases R with
  | nil =>
    have hlen : E.length = D.length := by rw [hp]; simp
    rw [whereL_nil] at hw
    repeat' ((conv=>whnf);first|(exfalso; omega)|refine zg ?_|refine zz (fun _=>?_) fun _=>?_|refine zb (fun _=>?_) fun _=>?_|refine zr ?_)
    all_goals conv=>whnf
    all_goals exact ret_int (by rw [hw]; simp [*])
  | cons e R =>
    have hlen := mid_len hp
    have w1 := whereL_on (p := p) (e := e) (es := R) (b := b)
    have w2 := whereL_flip (p := p) (e := e) (es := R) (b := b)
    have w3 := whereL_keep (p := p) (e := e) (es := R) (b := b)
    rw [<- hw] at w1 w2 w3
    have hc := vcross_spec (vsub e.2 e.1) (toP p e.1)
    have hon : onE p e ↔ vcross (vsub e.2 e.1) (toP p e.1) = 0 /\ _ := Iff.rfl
    have hfl : flipE p e ↔ ¬ (0 <= (toP p e.1).2 ↔ 0 <= (toP p e.2).2) /\ (0 <= (toP p e.1).2 ↔ 0 < vcross (vsub e.2 e.1) (toP p e.1)) := Iff.rfl
    simp only [<- minI_eq, <- maxI_eq] at hon
    generalize vcross (vsub e.2 e.1) (toP p e.1) = side at *
    have ha := toP_spec p e.1
    have hb := toP_spec p e.2
    generalize toP p e.1 = a at *
    generalize toP p e.2 = c at *
    repeat' ((conv=>whnf);first|(exfalso; omega)|refine need_own rfl rfl (by show 0 <= _ /\ _ < ((E.map sgV).length : Int); rw [List.length_map]; omega) ?_|refine idx_mid (l := E) (A := D) (x := e) (B := R) hp (by omega) ?_|refine zc ha ?_|refine zc hb ?_|refine zc (vsub_spec e.2 e.1) ?_|refine zc hc ?_|refine br_ll (fun hbb => ?_) (fun hbb => ?_)|refine br_l2 (fun hbb => ?_) (fun hbb => ?_)|refine zg ?_|refine zi ?_|refine za ?_|refine zn ?_|refine zv ?_|refine zz (fun _=>?_) fun _=>?_|refine zr ?_)
    all_goals conv=>whnf
    all_goals first
      | exact ret_int (w1 (hon.2 ⟨by omega, by omega, by omega, by omega, by omega⟩)).symm
      | skip
    all_goals
      first
      | (refine ⟨(D ++ [e], R, !b), ?_, ⟨by rw [hp]; simp, w2 (fun q => by have q := hon.1 q; omega) (hfl.2 ⟨by assumption, by assumption⟩)⟩, by simp⟩)
      | (refine ⟨(D ++ [e], R, b), ?_, ⟨by rw [hp]; simp, w3 (fun q => by have q := hon.1 q; omega) (fun q => by obtain ⟨q1, q2⟩ := hfl.1 q; contradiction)⟩, by simp⟩)
      simp only [List.length_append, List.length_singleton]
      exact zj
theorem whereV_t {r : Rg} {v : Vc} (h : within v 4000) : whereV r v = whereP r (v.1, v.2, 1) := if_pos h
theorem whereV_f {r : Rg} {v : Vc} (h : ¬ within v 4000) : whereV r v = 0 := if_neg h
theorem whereV_spec (r : Rg) (v : Vc) (hl : r.length <= 1000000) : Sp 274 [rgV r, vcV v] (I (whereV r v)) := by
  refine zsp Tryz.func274 ?_
  have h1 := whereV_t (r := r) (v := v)
  have h2 := whereV_f (r := r) (v := v)
  generalize whereV r v = A at *
  repeat' ((conv=>whnf);first|refine zc (within_spec v 4000) ?_|refine zc (pointOf_spec v) ?_|refine zc (whereP_spec r (v.1, v.2, 1) hl) ?_|refine zg ?_|refine zn ?_|refine zz (fun _=>?_) fun _=>?_|refine zr ?_)
  all_goals conv=>whnf
  all_goals first
    | exact ret_int (h2 (by assumption)).symm
    | exact ret_int (h1 (by assumption)).symm
open Classical in
noncomputable def boxR (r : Rg) : Bx × Bool := if ringOk r then boxOf r else (((0, 0), (0, 0)), false)
theorem boxR_t {r : Rg} (h : ringOk r) : boxR r = boxOf r := if_pos h
theorem boxR_f {r : Rg} (h : ¬ ringOk r) : boxR r = (((0, 0), (0, 0)), false) := if_neg h
theorem boxR_spec (r : Rg) (hl : r.length <= 1000000) : Sp 161 [rgV r] (.tup [bxV (boxR r).1, .lit (.bool (boxR r).2)]) := by
  refine zsp Tryz.func161 ?_
  have h1 := boxR_t (r := r)
  have h2 := boxR_f (r := r)
  have hb := boxOf_spec r hl
  generalize boxR r = A at *
  generalize boxOf r = B at *
  repeat' ((conv=>whnf);first|refine zc (ringOk_spec r hl) ?_|refine zc hb ?_|refine zg ?_|refine zn ?_|refine zd (fun hd=>?_) (fun hd=>?_)|refine zr ?_)
  · rw [h1 hd]
    all_goals conv=>whnf
    all_goals first|exact ret_int rfl|exact ret_bool rfl|exact ret_lit rfl|exact zt|exact zu
  · rw [h2 hd]
    all_goals conv=>whnf
    all_goals first|exact ret_int rfl|exact ret_bool rfl|exact ret_lit rfl|exact zt|exact zu
theorem take_D {r : Rg} {k : Nat} (h : k < r.length) : r.take (k + 1) = r.take k ++ [r.getD k z0] := by
  rw [List.take_add_one, getD_some h]; rfl
theorem eqR_spec (a b : Rg) (ha : a.length <= 1000000) (hb : b.length <= 1000000) : Sp 275 [rgV a, rgV b] (DB (a = b)) := by
  refine zsp Tryz.func275 ?_
  have hla : (a.map vcV).length = a.length := by simp
  have hlb : (b.map vcV).length = b.length := by simp
  repeat' ((conv=>whnf);first|refine zg ?_|refine zn ?_|refine zz (fun _=>?_) fun _=>?_|refine zr ?_)
  all_goals conv=>whnf
  all_goals first
    | (refine ret_boolD (dec_retf ?_); intro h; subst h; omega)
    | skip
  have hab : a.length = b.length := by omega
  refine loop_i (A := Nat) (fun k => mkSt [(0, rgV a), (1, rgV b), (11, rgV a), (12, I a.length), (13, I k)] [] []) (fun k => k <= a.length /\ a.take k = b.take k) (fun k => a.length - k) 0 ?_ ⟨by omega, rfl⟩ (fun k hk => ?_)
  · exact zj
  obtain ⟨hk, ht⟩ := hk
  by_cases hkr : k < a.length
  · repeat' ((conv=>whnf);first|(exfalso; omega)|refine need_len (l := a) (by omega) ?_|refine need_len (l := b) (by omega) ?_|refine idx_D (r := a) (k := k) (by omega) (by omega) ?_|refine idx_D (r := b) (k := k) (by omega) (by omega) ?_|refine eqVc_i ?_|refine br_veq (fun hv => ?_) (fun hv => ?_)|refine zg ?_|refine zi ?_|refine za ?_|refine zy ?_|refine zn ?_|refine zz (fun _=>?_) fun _=>?_|refine zr ?_)
    all_goals conv=>whnf
    · refine ⟨k + 1, ?_, ⟨by omega, ?_⟩, by omega⟩
      · exact zj
      · rw [take_D (by omega), take_D (by omega), ht, hv]
    · refine ret_boolD (dec_retf ?_)
      intro h
      subst h
      exact hv rfl
  · have ek : k = a.length := by omega
    repeat' ((conv=>whnf);first|(exfalso; omega)|refine zg ?_|refine zz (fun _=>?_) fun _=>?_|refine zr ?_)
    all_goals conv=>whnf
    refine ret_boolD (dec_ret ?_)
    rw [ek, List.take_length, hab, List.take_length] at ht
    exact ht
theorem leastL_cons (m x : Vc) (l : List Vc) : leastL m (x :: l) = leastL (open Classical in if vless x m then x else m) l := by rw [leastL]
theorem leastR_spec (r : Rg) (hl : r.length <= 1000000) (h0 : r ≠ []) : Sp 276 [rgV r, .fn 219 []] (vcV (leastR r)) := by
  refine zsp Tryz.func276 ?_
  have hll : (r.map vcV).length = r.length := by simp
  have hpos : 1 <= r.length := by cases r with | nil => exact absurd rfl h0 | cons x l => simp
  obtain ⟨x, l, hr⟩ : ∃ x l, r = x :: l := by cases r with | nil => exact absurd rfl h0 | cons x l => exact ⟨x, l, rfl⟩
  have hle : leastR r = leastL x l := by rw [hr]; rfl
  repeat' ((conv=>whnf);first|(exfalso; omega)|refine need_len (l := r) (by omega) ?_|refine idx_mid (l := r) (A := []) (x := x) (B := l) hr rfl ?_|refine zg ?_|refine zl (fun hlt=>?_) (fun hlt=>?_))
  refine loop_3 (A := List Vc) (B := List Vc) (C := Vc) (fun D R m => mkSt [(0, rgV r), (1, .fn 219 []), (4, .box 4 0), (5, .box 5 0), (6, I D.length)] [(4, [I 0, I 0]), (5, (vcV m).cells)] []) (fun D R m => r = D ++ R /\ leastR r = leastL m R /\ 1 <= D.length) (fun D R m => R.length) [x] l x ?_ ⟨hr, hle, by simp⟩ (fun D R m hp => ?_)
  · exact zj
  obtain ⟨hp, hm, hD⟩ := hp
  cases R with
  | nil =>
    have hlen : r.length = D.length := by rw [hp]; simp
    rw [hm]
    repeat' ((conv=>whnf);first|(exfalso; omega)|refine zg ?_|refine zl (fun hlt=>?_) (fun hlt=>?_)|refine zr ?_)
    all_goals conv=>whnf
    all_goals first|exact ret_int rfl|exact ret_bool rfl|exact ret_lit rfl|exact zt|exact zu
  | cons y R =>
    have hlen := mid_len hp
    rw [leastL_cons] at hm
    repeat' ((conv=>whnf);first|(exfalso; omega)|refine need_len (l := r) (by omega) ?_|refine idx_mid (l := r) (A := D) (x := y) (B := R) hp (by omega) ?_|refine zc (vcmp_spec y m) ?_|refine zg ?_|refine zi ?_|refine za ?_|refine zl (fun hlt=>?_) (fun hlt=>?_))
    all_goals conv=>whnf
    · refine ⟨(D ++ [y], R, y), ?_, ⟨by rw [hp]; simp, by rw [hm, if_pos (show vless y m from hlt)], by simp⟩, by simp⟩
      simp only [List.length_append, List.length_singleton]
      exact zj
    · refine ⟨(D ++ [y], R, m), ?_, ⟨by rw [hp]; simp, by rw [hm, if_neg (show ¬ vless y m by unfold vless; omega)], by simp⟩, by simp⟩
      simp only [List.length_append, List.length_singleton]
      exact zj
noncomputable def indexI (v : Vc) (r : Rg) : Int := match indexL v r 0 with | some j => j | none => -1
theorem indexR_spec (r : Rg) (v : Vc) (hl : r.length <= 1000000) : Sp 277 [rgV r, vcV v] (I (indexI v r)) := by
  refine zsp Tryz.func277 ?_
  have hll : (r.map vcV).length = r.length := by simp
  unfold indexI
  repeat' ((conv=>whnf);first|refine zg ?_)
  refine loop_2 (A := List Vc) (B := List Vc) (fun D R => mkSt [(0, rgV r), (3, .box 3 0), (6, rgV r), (7, I r.length), (8, I D.length)] [(3, (vcV v).cells)] []) (fun D R => r = D ++ R /\ indexL v r 0 = indexL v R D.length) (fun D R => R.length) [] r ?_ ⟨rfl, rfl⟩ (fun D R hp => ?_)
  · exact zj
  obtain ⟨hp, hm⟩ := hp
  cases R with
  | nil =>
    have hlen : r.length = D.length := by rw [hp]; simp
    repeat' ((conv=>whnf);first|(exfalso; omega)|refine zg ?_|refine zz (fun _=>?_) fun _=>?_|refine zr ?_)
    all_goals conv=>whnf
    exact ret_int (by rw [hm]; rfl)
  | cons y R =>
    have hlen := mid_len hp
    rw [indexL] at hm
    repeat' ((conv=>whnf);first|(exfalso; omega)|refine need_len (l := r) (by omega) ?_|refine idx_mid (l := r) (A := D) (x := y) (B := R) hp (by omega) ?_|refine eqVc_i ?_|refine br_veq (fun hv => ?_) (fun hv => ?_)|refine zg ?_|refine zi ?_|refine za ?_|refine zy ?_|refine zz (fun _=>?_) fun _=>?_|refine zr ?_)
    all_goals conv=>whnf
    · exact ret_int (by rw [hm, if_pos hv])
    · rw [if_neg hv] at hm
      refine ⟨(D ++ [y], R), ?_, ⟨by rw [hp]; simp, by rw [hm]; simp⟩, by simp⟩
      simp only [List.length_append, List.length_singleton]
      exact zj
theorem rvI_vc {g : FuncId} {c d : List V} {Q : Vc -> Prop} (hg : ∀ m, Sp g (vcV m :: [.fp c, .fp d]) (DB (Q m))) (l : List Vc) (hl : l.length <= 1000000) : fnVC T Tryz.prog Tryz.f322 [.sl (l.map vcV), .fn g [.fp c, .fp d]] (I (fstI Q l)) := by
  have hll : (l.map vcV).length = l.length := by simp
  repeat' ((conv=>whnf);first|refine zg ?_)
  refine loop_2 (A := List Vc) (B := List Vc) (fun D R => mkSt [(0, .sl (l.map vcV)), (1, .fn g [.fp c, .fp d]), (7, I l.length), (8, I D.length)] [] [])
    (fun D R => l = D ++ R /\ ∀ m ∈ D, ¬ Q m) (fun D R => R.length) [] l ?_ ⟨rfl, by simp⟩ (fun D R hp => ?_)
  · exact zj
  · obtain ⟨h1, h2⟩ := hp
    have hlen : l.length = D.length + R.length := by rw [h1]; simp
    have hD : ∀ y ∈ D, (!decB (Q y)) = true := fun y hy => by rw [decB_f.2 (h2 y hy)]; rfl
    cases R with
    | nil =>
      have e : l = D := by rw [h1]; simp
      simp at hlen
      repeat' ((conv=>whnf);first|(exfalso; omega)|refine zg ?_|refine zl (fun hlt=>?_) (fun hlt=>?_)|refine zr ?_)
      conv => whnf
      refine ret_int ?_
      unfold fstI
      rw [if_neg (fst_none.2 (by rw [e]; exact h2))]
    | cons x R =>
      rw [List.length_cons] at hlen
      repeat' ((conv=>whnf);first|(exfalso; omega)|refine idx_mid (l := l) (A := D) (x := x) (B := R) h1 (by omega) ?_|refine zc (hg x) ?_|refine zg ?_|refine za ?_|refine zo ?_|refine zd (fun hd=>?_) (fun hd=>?_)|refine zl (fun hlt=>?_) (fun hlt=>?_)|refine zr ?_)
      · conv => whnf
        refine ret_int ?_
        have e : fst Q l = D.length := by unfold fst; rw [h1]; exact tw_stop hD (by rw [decB_t.2 hd]; rfl)
        unfold fstI
        rw [e, if_pos (by omega)]
      · conv => whnf
        refine ⟨(D ++ [x], R), ?_, ⟨?_, ?_⟩, ?_⟩
        · refine le_mk ?_ ?_ ?_ ?_
          all_goals repeat' (first | exact trivial | refine And.intro ?_ ?_ | with_reducible rfl | exact (fun h => by cases h) | exact Nat.le_refl _ | omega | exact rfl)
          · show (D.length : Int) + 1 = (D ++ [x]).length
            simp
        · show l = D ++ [x] ++ R
          rw [h1]; simp
        · intro m hm
          rcases List.mem_append.1 hm with hm | hm
          · exact h2 m hm
          · rw [List.mem_singleton.1 hm]; exact hd
        · show R.length < (x :: R).length
          simp
theorem rvI_spec {g : FuncId} {c d : List V} {Q : Vc -> Prop} (hg : ∀ m, Sp g (vcV m :: [.fp c, .fp d]) (DB (Q m))) (l : List Vc) (hl : l.length <= 1000000) : Sp 322 [.sl (l.map vcV), .fn g [.fp c, .fp d]] (I (fstI Q l)) := zsp Tryz.func322 (rvI_vc hg l hl)
theorem rvC_vc {g : FuncId} {c d : List V} {Q : Vc -> Prop} (hg : ∀ m, Sp g (vcV m :: [.fp c, .fp d]) (DB (Q m))) (l : List Vc) (hl : l.length <= 1000000) : fnVC T Tryz.prog Tryz.f272 [.sl (l.map vcV), .fn g [.fp c, .fp d]] (DB (∃ m ∈ l, Q m)) := by
  repeat' ((conv=>whnf);first|refine zc (rvI_spec hg l hl) ?_|refine zg ?_|refine zr ?_)
  conv => whnf
  refine ret_boolD (le_dec ?_)
  have h := fst_none (Q := Q) (l := l)
  unfold fstI
  constructor
  · intro h0
    split at h0
    · rename_i hlt
      exact Classical.byContradiction fun hn => (h.2 (fun m hm hq => hn ⟨m, hm, hq⟩)) hlt
    · omega
  · rintro ⟨m, hm, hq⟩
    split
    · omega
    · rename_i hlt
      exact (h.1 hlt m hm hq).elim
theorem rvC_spec {g : FuncId} {c d : List V} {Q : Vc -> Prop} (hg : ∀ m, Sp g (vcV m :: [.fp c, .fp d]) (DB (Q m))) (l : List Vc) (hl : l.length <= 1000000) : Sp 272 [.sl (l.map vcV), .fn g [.fp c, .fp d]] (DB (∃ m ∈ l, Q m)) := zsp Tryz.func272 (rvC_vc hg l hl)
theorem allF_spec (b : Rg) (n : Int) (hb : b.length <= 1000000) (v : Vc) : Sp 273 [vcV v, .fp [rgV b], .fp [I n]] (DB (¬ whereV b v = n)) := by
  refine zsp Tryz.func273 ?_
  repeat' ((conv=>whnf);first|refine zc (whereV_spec b v hb) ?_|refine zg ?_|refine zi ?_|refine zr ?_)
  all_goals conv=>whnf
  all_goals refine ret_boolD (not_dec ?_)
  all_goals exact eqB_f
theorem allS_spec (r b : Rg) (n : Int) (hr : r.length <= 1000000) (hb : b.length <= 1000000) : Sp 212 [rgV r, rgV b, I n] (DB (allAt r b n)) := by
  refine zsp Tryz.func212 ?_
  repeat' ((conv=>whnf);first|refine zc (rvC_spec (fun v => allF_spec b n hb v) r hr) ?_|refine zg ?_|refine zr ?_)
  all_goals conv=>whnf
  all_goals refine ret_boolD (not_dec ?_)
  rw [decB_f]
  unfold allAt
  constructor
  · intro h v hv
    exact Classical.byContradiction fun hn => h ⟨v, hv, hn⟩
  · rintro h ⟨v, hv, hn⟩
    exact hn (h v hv)
theorem edges_le {r : Rg} (h : r.length <= 1000000) : (edges r).length <= 1000000 := by
  unfold edges
  split <;> simp; omega
theorem apartR_spec (a b : Rg) (ha : a.length <= 1000000) (hb : b.length <= 1000000) : Sp 213 [rgV a, rgV b] (DB (apartR a b)) := by
  refine zsp Tryz.func213 ?_
  have hea := edges_spec a ha
  have heb := edges_spec b hb
  have hla := edges_le ha
  have hlb := edges_le hb
  generalize hP : apartR a b = P
  have hr : P ↔ apartR a b := by rw [hP]
  unfold apartR at hr
  generalize edges a = A at *
  generalize edges b = B at *
  repeat' ((conv=>whnf);first|refine zc hea ?_|refine zg ?_|refine zv ?_)
  refine loop_2 (A := List Sg) (B := List Sg) (fun D R => mkSt [(1, rgV b), (10, .arr 10 0), (11, I A.length), (12, I D.length)] [] [(10, ⟨0, .own, 298, A.map sgV⟩)]) (fun D R => A = D ++ R /\ ∀ x ∈ D, ∀ y ∈ B, meetK x y = 0) (fun D R => R.length) [] A ?_ ⟨rfl, by simp⟩ (fun D R hp => ?_)
  · refine le_mk ?_ ?_ ?_ ?_
    all_goals repeat' (first | exact trivial | refine And.intro ?_ ?_ | with_reducible rfl | exact (fun h => by cases h) | exact Nat.le_refl _ | omega | exact rfl)
    all_goals (rw [List.length_map])
  obtain ⟨hp, hD⟩ := hp
  cases R with
  | nil =>
    have hlen : A.length = D.length := by rw [hp]; simp
    repeat' ((conv=>whnf);first|(exfalso; omega)|refine zg ?_|refine zz (fun _=>?_) fun _=>?_|refine zr ?_)
    all_goals conv=>whnf
    refine ret_boolD (dec_ret (hr.2 ?_))
    rw [hp, List.append_nil]
    exact hD
  | cons x R =>
    have hlen := mid_len hp
    repeat' ((conv=>whnf);first|(exfalso; omega)|refine need_own rfl rfl (by show 0 <= _ /\ _ < ((A.map sgV).length : Int); rw [List.length_map]; omega) ?_|refine idx_mid (l := A) (A := D) (x := x) (B := R) hp (by omega) ?_|refine zc heb ?_|refine zg ?_|refine zv ?_|refine zz (fun _=>?_) fun _=>?_)
    refine loop_2 (A := List Sg) (B := List Sg) (fun E S => mkSt [(1, rgV b), (6, .box 6 0), (10, .arr 10 0), (11, I A.length), (12, I D.length), (17, .arr 17 0), (18, I B.length), (19, I E.length)] [(6, (sgV x).cells)] [(10, ⟨0, .own, 298, A.map sgV⟩), (17, ⟨0, .own, 298, B.map sgV⟩)]) (fun E S => B = E ++ S /\ ∀ y ∈ E, meetK x y = 0) (fun E S => S.length) [] B ?_ ⟨rfl, by simp⟩ (fun E S hq => ?_)
    · refine le_mk ?_ ?_ ?_ ?_
      all_goals repeat' (first | exact trivial | refine And.intro ?_ ?_ | with_reducible rfl | exact (fun h => by cases h) | exact Nat.le_refl _ | omega | exact rfl)
      all_goals (rw [List.length_map])
    obtain ⟨hq, hE⟩ := hq
    cases S with
    | nil =>
      have hlen2 : B.length = E.length := by rw [hq]; simp
      have hBE : B = E := by rw [hq]; simp
      repeat' ((conv=>whnf);first|(exfalso; omega)|refine zg ?_|refine za ?_|refine zz (fun _=>?_) fun _=>?_)
      all_goals conv=>whnf
      refine ⟨(D ++ [x], R), ?_, ⟨by rw [hp]; simp, fun z hz => ?_⟩, by simp⟩
      · simp only [List.length_append, List.length_singleton]
        exact zj
      · rcases List.mem_append.1 hz with hz | hz
        · exact hD z hz
        · rw [List.mem_singleton.1 hz, hBE]
          exact hE
    | cons y S =>
      have hlen2 := mid_len hq
      repeat' ((conv=>whnf);first|(exfalso; omega)|refine need_own rfl rfl (by show 0 <= _ /\ _ < ((B.map sgV).length : Int); rw [List.length_map]; omega) ?_|refine idx_mid (l := B) (A := E) (x := y) (B := S) hq (by omega) ?_|refine zc (Meet_spec x y) ?_|refine zg ?_|refine za ?_|refine zn ?_|refine zv ?_|refine zz (fun _=>?_) fun _=>?_|refine zr ?_)
      all_goals conv=>whnf
      all_goals first
        | (refine ret_boolD (dec_retf ?_); rw [hr]; intro h; exact absurd (h x (by rw [hp]; simp) y (by rw [hq]; simp)) (by assumption))
        | skip
      refine ⟨(E ++ [y], S), ?_, ⟨by rw [hq]; simp, fun z hz => ?_⟩, by simp⟩
      · simp only [List.length_append, List.length_singleton]
        exact zj
      · rcases List.mem_append.1 hz with hz | hz
        · exact hE z hz
        · rw [List.mem_singleton.1 hz]
          assumption
end Go.Proofs.Led
