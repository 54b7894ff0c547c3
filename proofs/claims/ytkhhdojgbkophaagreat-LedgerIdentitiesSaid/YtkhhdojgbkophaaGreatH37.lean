/-
  The inventory as a variable: a stock that is discarded.
-/
import Derived.Test.YtkhhdojgbkophaaGreatH35
import Derived.Test.YtkhhdojgbkophaaGreatTI5
set_option linter.unusedVariables false
set_option linter.unusedSimpArgs false
namespace Go.Proofs.Led
open Go Go.Proofs Go.Ab
set_option maxRecDepth 100000
set_option maxHeartbeats 4000000
def outAt {α : Type} (l : List α) (i : Nat) : List α := l.take i ++ l.drop (i + 1)
theorem delSt_spec (l : List Stock) (i : Nat) (hi : i < l.length) (hl : l.length <= 1000000000) : Sp 138 [.own 88 (l.map stockV), I i, I ((i : Int) + 1)] (.own 88 ((outAt l i).map stockV)) := by
  have h := delS_spec (l.map stockV) i (by simpa using hi) (by simpa using hl)
  unfold outAt
  rw [List.map_append, List.map_take, List.map_drop]
  exact h
noncomputable def discS (s : Inv56) (k : Nat) (m : Stock) : Inv56 := { stocks := outAt s.stocks k, pieces := s.pieces, used := s.used, received := s.received, scrap := plus m.isBar s.scrap (sizeK m) }
theorem discardY_vc (s : Inv56) (e : Event) (m : Stock) (hs : Gd s) (hf : ∃ m ∈ s.stocks, sid m = e.id) (hm : s.stocks[bs sid s.stocks e.id]? = some m) (hp : m.program = emptyB) (hx : stockSized m) :
    fnVCB T Tryz.prog Tryz.f63 [.box 100000 0, eventV e] [stC s] (I 0) [stC (discS s (bs sid s.stocks e.id) m)] := by
  have h1 := find_spec s e.id hs
  have hkl := (List.getElem?_eq_some_iff.1 hm).1
  have hll : (s.stocks.map stockV).length = s.stocks.length := by simp
  have hl := hs.ls
  have h2 := delSt_spec s.stocks (bs sid s.stocks e.id) hkl (by omega)
  have h4 := classI_spec m.isBar
  have h5 := sizeK_spec m hx
  unfold discS
  generalize bs sid s.stocks e.id = k at *
  generalize (∃ m ∈ s.stocks, sid m = e.id) = P at *
  generalize outAt s.stocks k = L at *
  generalize sizeK m = z at *
  unfold plus
  obtain ⟨b, sh, br, p⟩ := m
  cases b
  · repeat' ((conv=>whnf);first|(exfalso; contradiction)|refine br_eqS (fun heq => ?_) (fun heq => ?_)|refine zh (h1) [100000] ?_|refine need_own rfl rfl (by show 0 <= _ /\ _ < ((s.stocks.map stockV).length : Int); omega) ?_|refine idx_at (l := s.stocks) hm (by omega) ?_|refine zc h4 ?_|refine zc h5 ?_|refine zc h2 ?_|refine zg ?_|refine zi ?_|refine za ?_|refine zw ?_|refine zn ?_|refine zv ?_|refine zz (fun _=>?_) fun _=>?_|refine zq ?_)
    all_goals conv=>whnf
    all_goals first|exact ⟨_, rfl, zc1⟩|exact zc1
  · repeat' ((conv=>whnf);first|(exfalso; contradiction)|refine br_eqS (fun heq => ?_) (fun heq => ?_)|refine zh (h1) [100000] ?_|refine need_own rfl rfl (by show 0 <= _ /\ _ < ((s.stocks.map stockV).length : Int); omega) ?_|refine idx_at (l := s.stocks) hm (by omega) ?_|refine zc h4 ?_|refine zc h5 ?_|refine zc h2 ?_|refine zg ?_|refine zi ?_|refine za ?_|refine zw ?_|refine zn ?_|refine zv ?_|refine zz (fun _=>?_) fun _=>?_|refine zq ?_)
    all_goals conv=>whnf
    all_goals first|exact ⟨_, rfl, zc1⟩|exact zc1
theorem discardY_spec (s : Inv56) (e : Event) (m : Stock) (hs : Gd s) (hf : ∃ m ∈ s.stocks, sid m = e.id) (hm : s.stocks[bs sid s.stocks e.id]? = some m) (hp : m.program = emptyB) (hx : stockSized m) :
    SpB 63 [.box 100000 0, eventV e] [stC s] (I 0) [stC (discS s (bs sid s.stocks e.id) m)] :=
  b_of Tryz.func63 (by kernel_rfl) (by kernel_rfl) rfl rfl (discardY_vc s e m hs hf hm hp hx)
theorem discardB_vc (s : Inv56) (e : Event) (m : Stock) (hs : Gd s) (hf : ∃ m ∈ s.stocks, sid m = e.id) (hm : s.stocks[bs sid s.stocks e.id]? = some m) (hp : m.program ≠ emptyB) :
    fnVCB T Tryz.prog Tryz.f63 [.box 100000 0, eventV e] [stC s] (I 27) [bots] := by
  have h1 := find_spec s e.id hs
  have hkl := (List.getElem?_eq_some_iff.1 hm).1
  have hll : (s.stocks.map stockV).length = s.stocks.length := by simp
  generalize bs sid s.stocks e.id = k at *
  generalize (∃ m ∈ s.stocks, sid m = e.id) = P at *
  repeat' ((conv=>whnf);first|(exfalso; contradiction)|refine br_eqS (fun heq => ?_) (fun heq => ?_)|refine zh (h1) [100000] ?_|refine need_own rfl rfl (by show 0 <= _ /\ _ < ((s.stocks.map stockV).length : Int); omega) ?_|refine idx_at (l := s.stocks) hm (by omega) ?_|refine zg ?_|refine zn ?_|refine zv ?_|refine zz (fun _=>?_) fun _=>?_|refine zq ?_)
  all_goals conv=>whnf
  all_goals first|exact ⟨_, rfl, zc1⟩|exact zc1
theorem discardB_spec (s : Inv56) (e : Event) (m : Stock) (hs : Gd s) (hf : ∃ m ∈ s.stocks, sid m = e.id) (hm : s.stocks[bs sid s.stocks e.id]? = some m) (hp : m.program ≠ emptyB) :
    SpB 63 [.box 100000 0, eventV e] [stC s] (I 27) [bots] :=
  b_of Tryz.func63 (by kernel_rfl) (by kernel_rfl) rfl rfl (discardB_vc s e m hs hf hm hp)
theorem discardN_vc (s : Inv56) (e : Event) (hs : Gd s) (hf : ¬ ∃ m ∈ s.stocks, sid m = e.id) :
    fnVCB T Tryz.prog Tryz.f63 [.box 100000 0, eventV e] [stC s] (I 8) [bots] := by
  have h1 := find_spec s e.id hs
  generalize bs sid s.stocks e.id = k at *
  generalize (∃ m ∈ s.stocks, sid m = e.id) = P at *
  repeat' ((conv=>whnf);first|(exfalso; contradiction)|refine zh (h1) [100000] ?_|refine zg ?_|refine zn ?_|refine zz (fun _=>?_) fun _=>?_|refine zq ?_)
  all_goals conv=>whnf
  all_goals first|exact ⟨_, rfl, zc1⟩|exact zc1
theorem discardN_spec (s : Inv56) (e : Event) (hs : Gd s) (hf : ¬ ∃ m ∈ s.stocks, sid m = e.id) :
    SpB 63 [.box 100000 0, eventV e] [stC s] (I 8) [bots] :=
  b_of Tryz.func63 (by kernel_rfl) (by kernel_rfl) rfl rfl (discardN_vc s e hs hf)
def Fits (s : Sh) : Prop := s.outer.length <= 9223372036854775807 /\ s.holes.length <= 1000000 /\ ∀ h ∈ s.holes, h.length <= 9223372036854775807
theorem Fits.mem {s : Sh} (h : Fits s) {r : Rg} (hr : r ∈ rings s) : r.length <= 9223372036854775807 := by
  rcases List.mem_cons.1 hr with rfl | hr
  · exact h.1
  · exact h.2.2 r hr
theorem Sized.fits {s : Sh} (h : Sized s) : Fits s := ⟨by have := h.1; omega, h.2.1, fun r hr => by have := h.2.2 r hr; omega⟩
def sheetFits (s : Sheet) : Prop := Fits s.shape /\ s.defects.length <= 1000000 /\ ∀ d ∈ s.defects, Fits d
theorem fits_sized {s : Sheet} (h : sheetSized s) : sheetFits s := ⟨h.1.fits, h.2.1, fun d hd => (h.2.2 d hd).fits⟩
theorem ringOkF_spec (r : Rg) (hl : r.length <= 9223372036854775807) : Sp 211 [rgV r] (DB (ringOk r)) := by
  by_cases h : r.length <= 1000000
  · exact ringOk_spec r h
  · have e : DB (ringOk r) = .lit (.bool false) := congrArg (fun b => V.lit (.bool b)) (decB_f.2 (fun q => by have := q.2.1; omega))
    rw [e]
    refine zsp Tryz.func211 ?_
    have hll : (r.map vcV).length = r.length := by simp
    repeat' ((conv=>whnf);first|(exfalso; omega)|refine zg ?_|refine zz (fun _=>?_) fun _=>?_|refine zr ?_)
    all_goals conv=>whnf
    all_goals first|exact ret_int rfl|exact ret_bool rfl|exact ret_lit rfl|exact zt|exact zu
theorem shapeOkF_spec (s : Sh) (hs : Fits s) : Sp 158 [shV s] (DB (shapeOk s)) := by
  refine zsp Tryz.func158 ?_
  have hmm : (s.holes.map rgV).length = s.holes.length := by simp
  generalize hP : shapeOk s = P
  have hr : P ↔ shapeOk s := by rw [hP]
  unfold shapeOk at hr
  repeat' ((conv=>whnf);first|refine zc (ringsF_spec s) ?_|refine zg ?_|refine zz (fun _=>?_) fun _=>?_|refine zr ?_)
  all_goals conv=>whnf
  all_goals first
    | (refine ret_boolD (dec_retf ?_); rw [hr]; intro h; obtain ⟨h1, h2, h3, h4⟩ := h; first | omega | contradiction)
    | skip
  have h6 : s.holes.length <= 6 := by omega
  refine range_2 (ritems s) (rings_spec s (by omega)) (ritems_one s) (A := List Rg) (B := List Rg) (fun D R => mkSt [(1, .box 1 0), (2, .box 2 0), (3, .box 3 0), (14, .fn 230 [.fp (shV s).cells])] [(1, (shV s).cells), (2, [.lit (.bool false)]), (3, [I (corners D)])] [])
    (fun k D R => rings s = D ++ R /\ D.length = k /\ ∀ r ∈ D, ringOk r) [] (rings s) ?_ ⟨rfl, rfl, by simp⟩ rfl ?_ ?_
  · exact zj
  · rintro k D R it ⟨hp, hk, hD⟩ hit
    subst hk
    obtain ⟨r, R', rfl, rfl⟩ := ritems_k hp hit
    have hlen := mid_len hp
    have hlr : (rings s).length = s.holes.length + 1 := by unfold rings; simp
    have hrl : r.length <= 9223372036854775807 := hs.mem (by rw [hp]; simp)
    have hc := corners_le hD
    have hll : (r.map vcV).length = r.length := by simp
    have ec : ((corners (D ++ [r]) : Nat) : Int) = (corners D : Int) + ((r.map vcV).length : Nat) := by rw [corners_snoc, hll]; simp
    have hf := ringOkF_spec r hrl
    rcases Nat.lt_or_ge 40 r.length with hbig | hsm
    · have hno : ¬ ringOk r := fun h => by have := h.2.1; omega
      repeat' ((conv=>whnf);first|(exfalso; contradiction)|refine zc hf ?_|refine zg ?_|refine zw ?_|refine zn ?_|refine zz (fun _=>?_) fun _=>?_|refine zr ?_)
      all_goals conv=>whnf
      refine ret_boolD (dec_retf ?_)
      rw [hr]
      intro h
      exact absurd (h.2.1 r (by rw [hp]; simp)) (by assumption)
    · repeat' ((conv=>whnf);first|refine zc hf ?_|refine zg ?_|refine za ?_|refine zn ?_|refine zz (fun _=>?_) fun _=>?_|refine zr ?_)
      all_goals conv=>whnf
      · refine ⟨(D ++ [r], R'), ?_, by rw [hp]; simp, by simp, fun q hq => ?_⟩
        · simp only [ec]
          exact zj
        · rcases List.mem_append.1 hq with hq | hq
          · exact hD q hq
          · rw [List.mem_singleton.1 hq]; assumption
      · refine ret_boolD (dec_retf ?_)
        rw [hr]
        intro h
        exact absurd (h.2.1 r (by rw [hp]; simp)) (by assumption)
  · rintro D R ⟨hp, hk, hD⟩
    have hRn : R = [] := by
      have h1 : (ritems s).length = (rings s).length := by unfold ritems; simp
      have h2 : (rings s).length = D.length + R.length := by rw [hp]; simp
      exact List.length_eq_zero_iff.1 (by omega)
    subst hRn
    rw [List.append_nil] at hp
    subst hp
    clear hk
    have hlr : (rings s).length = s.holes.length + 1 := by unfold rings; simp
    have hc := corners_le hD
    repeat' ((conv=>whnf);first|refine zg ?_|refine zz (fun _=>?_) fun _=>?_|refine zr ?_)
    all_goals conv=>whnf
    all_goals first
      | (refine ret_boolD (dec_retf ?_); rw [hr]; intro h; obtain ⟨h1, h2, h3, h4⟩ := h; first | omega | contradiction)
      | skip
    have h40 : ∀ r ∈ rings s, r.length <= 40 := fun r hr => (hD r hr).2.1
    have hsz : Sized s := ⟨by have := h40 s.outer (by unfold rings; simp); omega, by omega, fun r hr => by have := h40 r (by unfold rings; simp [hr]); omega⟩
    clear h40
    have h80 : corners (rings s) <= 80 := by omega
    have hr2 : P ↔ holesOk s.outer [] s.holes := hr.trans ⟨fun h => h.2.2.2, fun h => ⟨h6, hD, h80, h⟩⟩
    refine loop_2 (A := List Rg) (B := List Rg) (fun D R => mkSt [(1, .box 1 0), (2, .box 2 0), (26, .sl (s.holes.map rgV)), (27, I s.holes.length), (28, I D.length)] [(1, (shV s).cells), (2, [.lit (.bool false)])] []) (fun D R => s.holes = D ++ R /\ (P ↔ holesOk s.outer D R)) (fun D R => R.length) [] s.holes ?_ ⟨rfl, hr2⟩ (fun D R hp => ?_)
    · refine le_mk ?_ ?_ ?_ ?_
      all_goals repeat' (first | exact trivial | refine And.intro ?_ ?_ | with_reducible rfl | exact (fun h => by cases h) | exact Nat.le_refl _ | omega | exact rfl)
      all_goals (try rw [List.length_map])
    obtain ⟨hp, hP2⟩ := hp
    cases R with
    | nil =>
      have hlen : s.holes.length = D.length := by rw [hp]; simp
      repeat' ((conv=>whnf);first|(exfalso; omega)|refine zg ?_|refine zz (fun _=>?_) fun _=>?_|refine zr ?_)
      all_goals conv=>whnf
      exact ret_boolD (dec_ret (hP2.2 trivial))
    | cons h R =>
      have hlen := mid_len hp
      have hhl : h.length <= 1000000 := hsz.2.2 h (by rw [hp]; simp)
      rw [holesOk] at hP2
      unfold holeOk at hP2
      have htk : ((s.holes.map rgV).take ((D.length : Nat) : Int).toNat) = D.map rgV := by rw [Int.toNat_natCast, hp]; simp
      repeat' ((conv=>whnf);first|(exfalso; omega)|refine idx_mid (l := s.holes) (A := D) (x := h) (B := R) hp (by omega) ?_|refine zc (allS_spec h s.outer 2 hhl hsz.1) ?_|refine zc (apartR_spec h s.outer hhl hsz.1) ?_|refine need_i ⟨by omega, by omega, by omega, .inl rfl⟩ ?_|refine zg ?_|refine zo ?_|refine zn ?_|refine zz (fun _=>?_) fun _=>?_|refine zr ?_)
      all_goals conv=>whnf
      all_goals first
        | (refine ret_boolD (dec_retf ?_); rw [hP2]; intro h; obtain ⟨⟨h1, h2, h3⟩, h4⟩ := h; contradiction)
        | skip
      refine loop_2 (A := List Rg) (B := List Rg) (fun E S => mkSt [(1, .box 1 0), (2, .box 2 0), (6, rgV h), (26, .sl (s.holes.map rgV)), (27, I s.holes.length), (28, I D.length), (48, .sl (List.drop (Int.toNat 0) (List.take ((D.length : Nat) : Int).toNat (List.map rgV s.holes)))), (49, I (List.drop (Int.toNat 0) (List.take ((D.length : Nat) : Int).toNat (List.map rgV s.holes))).length), (50, I E.length)] [(1, (shV s).cells), (2, [.lit (.bool false)])] []) (fun E S => D = E ++ S /\ ∀ k ∈ E, apartR h k /\ allAt h k 0 /\ allAt k h 0) (fun E S => S.length) [] D ?_ ⟨rfl, by simp⟩ (fun E S hq => ?_)
      · exact zj
      obtain ⟨hq, hE⟩ := hq
      have hX : (List.drop (Int.toNat 0) (List.take ((D.length : Nat) : Int).toNat (List.map rgV s.holes))) = D.map rgV := htk
      have hXl : (List.drop (Int.toNat 0) (List.take ((D.length : Nat) : Int).toNat (List.map rgV s.holes))).length = D.length := by rw [hX, List.length_map]
      cases S with
      | nil =>
        have hlen2 : D.length = E.length := by rw [hq]; simp
        have hDE : D = E := by rw [hq]; simp
        repeat' ((conv=>whnf);first|(exfalso; omega)|refine zg ?_|refine za ?_|refine zz (fun _=>?_) fun _=>?_)
        all_goals conv=>whnf
        refine ⟨(D ++ [h], R), ?_, ⟨by rw [hp]; simp, ?_⟩, by simp⟩
        · simp only [List.length_append, List.length_singleton]
          exact zj
        · rw [hP2]
          exact ⟨fun q => q.2, fun q => ⟨⟨by assumption, by assumption, by rw [hDE]; exact hE⟩, q⟩⟩
      | cons k S =>
        have hlen2 := mid_len hq
        have hkl : k.length <= 1000000 := hsz.2.2 k (by rw [hp, hq]; simp)
        repeat' ((conv=>whnf);first|(exfalso; omega)|refine idx_eq (l := D) (A := E) (x := k) (B := S) hX hq (by omega) ?_|refine zc (apartR_spec h k hhl hkl) ?_|refine zc (allS_spec h k 0 hhl hkl) ?_|refine zc (allS_spec k h 0 hkl hhl) ?_|refine zg ?_|refine za ?_|refine zo ?_|refine zn ?_|refine zz (fun _=>?_) fun _=>?_|refine zr ?_)
        all_goals conv=>whnf
        all_goals first
          | (refine ret_boolD (dec_retf ?_); rw [hP2]; intro q; have q1 := q.1.2.2 k (by rw [hq]; simp); obtain ⟨q2, q3, q4⟩ := q1; contradiction)
          | skip
        refine ⟨(E ++ [k], S), ?_, ⟨by rw [hq]; simp, fun z hz => ?_⟩, by simp⟩
        · simp only [List.length_append, List.length_singleton]
          exact zj
        · rcases List.mem_append.1 hz with hz | hz
          · exact hE z hz
          · rw [List.mem_singleton.1 hz]
            exact ⟨by assumption, by assumption, by assumption⟩
theorem canonCF_spec (s : Sh) (hs : Fits s) : Sp 93 [shV s] (DB (canonC s)) := by
  by_cases h : shapeOk s
  · exact canonC_spec s (ok_sized h)
  · have h1 := shapeOkF_spec s hs
    have e1 : DB (canonC s) = .lit (.bool false) := congrArg (fun b => V.lit (.bool b)) (decB_f.2 (fun q => h q.1))
    rw [e1]
    refine zsp Tryz.func93 ?_
    repeat' ((conv=>whnf);first|(exfalso; contradiction)|refine zc h1 ?_|refine zg ?_|refine zi ?_|refine zz (fun _=>?_) fun _=>?_|refine zr ?_)
    all_goals conv=>whnf
    all_goals first|exact ret_int rfl|exact ret_bool rfl|exact ret_lit rfl|exact zt|exact zu
theorem InsideF_spec (c s : Sh) (hc : shapeOk c) (hs : Fits s) : Sp 96 [shV c, shV s] (.tup [DB (InsideB c s), I (InsideE c s)]) := by
  by_cases h2 : shapeOk s
  · exact Inside_spec c s (ok_sized hc) (ok_sized h2)
  · have m1 := shapeOkF_spec c (ok_sized hc).fits
    have m2 := shapeOkF_spec s hs
    have e1 : DB (InsideB c s) = .lit (.bool false) := congrArg (fun b => V.lit (.bool b)) (decB_f.2 (fun h => h2 h.2.1))
    have e2 : InsideE c s = 11 := if_neg (fun h => h2 h.2)
    rw [e1, e2]
    refine zsp Tryz.func96 ?_
    repeat' ((conv=>whnf);first|(exfalso; contradiction)|refine zc m1 ?_|refine zc m2 ?_|refine zg ?_|refine zn ?_|refine zz (fun _=>?_) fun _=>?_|refine zr ?_)
    all_goals conv=>whnf
    all_goals first|exact ret_int rfl|exact ret_bool rfl|exact ret_lit rfl|exact zt|exact zu
theorem validSheetF_spec (s : Sheet) (hs : sheetFits s) : Sp 33 [sheetV s] (DB (validSheetC s)) := by
  refine zsp Tryz.func33 ?_
  obtain ⟨hs1, hs2, hs3⟩ := hs
  have h1 := sheetOf_spec s
  have h2 := label_spec s.id s.grade s.heat
  have h3 := canonCF_spec s.shape hs1
  by_cases hcan : canonC s.shape
  rotate_left
  · have hr : validSheetC s -> labelC s.id s.grade s.heat /\ 0 <= s.grain /\ s.grain <= 2 /\ canonC s.shape := fun h => ⟨h.1, h.2.1, h.2.2.1, h.2.2.2.1⟩
    generalize validSheetC s = P at *
    generalize labelC s.id s.grade s.heat = p1 at *
    generalize canonC s.shape = p2 at *
    repeat' ((conv=>whnf);first|(exfalso; contradiction)|refine zc h1 ?_|refine zc h2 ?_|refine zc h3 ?_|refine zg ?_|refine zn ?_|refine zz (fun _=>?_) fun _=>?_|refine zr ?_)
    all_goals conv=>whnf
    all_goals exact ret_boolD (dec_retf (fun h => hcan (hr h).2.2.2))
  have hok := hcan.1
  have hsz := ok_sized hok
  have h4 := boxS_spec s.shape hsz
  have h5 := onSheet_spec (boxS s.shape).1.1
  have h6 := onSheet_spec (boxS s.shape).1.2
  have hr : validSheetC s ↔ labelC s.id s.grade s.heat /\ 0 <= s.grain /\ s.grain <= 2 /\ canonC s.shape /\ s.defects.length <= 6 /\ onSheetC (boxS s.shape).1.1 /\ onSheetC (boxS s.shape).1.2 /\ ∀ d ∈ s.defects, defectC s.shape d := Iff.rfl
  have hl : (s.defects.map shV).length = s.defects.length := by simp
  have hdf : ∀ d, defectC s.shape d ↔ canonC d /\ InsideE s.shape d = 0 /\ InsideB s.shape d := fun d => Iff.rfl
  generalize validSheetC s = P at *
  generalize labelC s.id s.grade s.heat = p1 at *
  generalize canonC s.shape = p2 at *
  generalize onSheetC (boxS s.shape).1.1 = p3 at *
  generalize onSheetC (boxS s.shape).1.2 = p4 at *
  repeat' ((conv=>whnf);first|refine zc h1 ?_|refine zc h2 ?_|refine zc h3 ?_|refine zc h4 ?_|refine zc h5 ?_|refine zc h6 ?_|refine zg ?_|refine zn ?_|refine zz (fun _=>?_) fun _=>?_|refine zr ?_)
  all_goals conv=>whnf
  all_goals first
    | exact ret_boolD (dec_retf (fun h => absurd (hr.1 h).1 (by assumption)))
    | exact ret_boolD (dec_retf (fun h => absurd (hr.1 h).2.2.2.1 (by assumption)))
    | exact ret_boolD (dec_retf (fun h => absurd (hr.1 h).2.2.2.2.2.1 (by assumption)))
    | exact ret_boolD (dec_retf (fun h => absurd (hr.1 h).2.2.2.2.2.2.1 (by assumption)))
    | exact ret_boolD (dec_retf (fun h => by have := (hr.1 h).2.1; have := (hr.1 h).2.2.1; have := (hr.1 h).2.2.2.2.1; omega))
    | skip
  have hP : P ↔ ∀ d ∈ s.defects, defectC s.shape d := ⟨fun h => (hr.1 h).2.2.2.2.2.2.2, fun h => hr.2 ⟨by assumption, by omega, by omega, by assumption, by omega, by assumption, by assumption, h⟩⟩
  clear hr
  refine loop_2 (A := List Sh) (B := List Sh) (fun D R => mkSt [(1, .box 1 0), (53, .sl (s.defects.map shV)), (54, I s.defects.length), (55, I D.length)] [(1, sheetC s)] []) (fun D R => s.defects = D ++ R /\ ∀ d ∈ D, defectC s.shape d) (fun D R => R.length) [] s.defects ?_ ⟨rfl, by simp⟩ (fun D R hp => ?_)
  · refine le_mk ?_ ?_ ?_ ?_
    all_goals repeat' (first | exact trivial | refine And.intro ?_ ?_ | with_reducible rfl | exact (fun h => by cases h) | exact Nat.le_refl _ | omega | exact rfl)
    all_goals (try rw [hl])
  obtain ⟨hp, hD⟩ := hp
  cases R with
  | nil =>
    have hlen : s.defects.length = D.length := by rw [hp]; simp
    repeat' ((conv=>whnf);first|(exfalso; omega)|refine zg ?_|refine zz (fun _=>?_) fun _=>?_|refine zr ?_)
    all_goals conv=>whnf
    refine ret_boolD (dec_ret (hP.2 fun d h => ?_))
    rw [hp, List.append_nil] at h
    exact hD d h
  | cons d R =>
    have hlen := mid_len hp
    have hdm : d ∈ s.defects := by rw [hp]; simp
    have g1 := InsideF_spec s.shape d hok (hs3 d hdm)
    have g2 := canonCF_spec d (hs3 d hdm)
    have hq := hdf d
    generalize canonC d = q1 at *
    generalize InsideE s.shape d = q2 at *
    generalize InsideB s.shape d = q3 at *
    repeat' ((conv=>whnf);first|(exfalso; omega)|refine need_len (l := s.defects) (by omega) ?_|refine idx_mid (l := s.defects) (A := D) (x := d) (B := R) hp (by omega) ?_|refine zc g1 ?_|refine zc g2 ?_|refine zg ?_|refine za ?_|refine zn ?_|refine zz (fun _=>?_) fun _=>?_|refine zr ?_)
    all_goals conv=>whnf
    all_goals first
      | exact ret_boolD (dec_retf (fun h => absurd (hq.1 (hP.1 h d hdm)).1 (by assumption)))
      | exact ret_boolD (dec_retf (fun h => absurd (hq.1 (hP.1 h d hdm)).2.1 (by assumption)))
      | exact ret_boolD (dec_retf (fun h => absurd (hq.1 (hP.1 h d hdm)).2.2 (by assumption)))
      | skip
    refine ⟨(D ++ [d], R), ?_, ⟨by rw [hp]; simp, fun z hz => ?_⟩, by simp⟩
    · simp only [List.length_append, List.length_singleton]
      exact zj
    · rcases List.mem_append.1 hz with hz | hz
      · exact hD z hz
      · rw [List.mem_singleton.1 hz]
        exact hq.2 ⟨by assumption, by assumption, by assumption⟩
theorem noSheetF_spec (s : Sheet) : Sp 74 [sheetV s] (DB (noSheetC s)) := by
  refine zsp Tryz.func74 ?_
  have hr : noSheetC s ↔ s.id = 0 /\ s.grade = emptyB /\ s.heat = emptyB /\ s.grain = 0 /\ s.shape.outer.length = 0 /\ s.shape.holes.length = 0 /\ s.defects.length = 0 := Iff.rfl
  generalize noSheetC s = P at *
  have l1 : (s.shape.outer.map vcV).length = s.shape.outer.length := by simp
  have l2 : (s.shape.holes.map rgV).length = s.shape.holes.length := by simp
  have l3 : (s.defects.map shV).length = s.defects.length := by simp
  repeat' ((conv=>whnf);first|refine br_eqS (fun heq => ?_) (fun heq => ?_)|refine zg ?_|refine zz (fun _=>?_) fun _=>?_|refine zr ?_)
  all_goals conv=>whnf
  all_goals first
    | exact ret_boolD (eq_dec ⟨fun h => hr.2 ⟨by omega, by assumption, by assumption, by omega, by omega, by omega, by omega⟩, fun h => by have := (hr.1 h).2.2.2.2.2.2; omega⟩)
    | exact ret_boolD (dec_retf (fun h => by have := (hr.1 h); omega))
    | exact ret_boolD (dec_retf (fun h => absurd (hr.1 h).2.1 (by assumption)))
    | exact ret_boolD (dec_retf (fun h => absurd (hr.1 h).2.2.1 (by assumption)))
theorem valid_sized {s : Sheet} (h : validSheetC s) : sheetSized s := ⟨ok_sized h.2.2.2.1.1, by have := h.2.2.2.2.1; omega, fun d hd => ok_sized (h.2.2.2.2.2.2.2 d hd).1.1⟩
def madeC (c : Made) : Prop := identC c.id /\ isName c.part /\ 1 <= c.size
def restC (r : Rest) : Prop := identC r.id /\ (r.box = bx0 \/ (r.lo = 0 /\ r.hi = 0))
def formedCutC (e : Event) : Prop := (∀ c ∈ e.cuts, madeC c) /\ (∀ r ∈ e.rests, restC r) /\ e.cuts.length <= 60 /\ e.rests.length <= 6 /\ 0 <= e.scrap /\ e.text = emptyB
structure EvSized (e : Event) : Prop where
  sh : sheetFits e.sheet
  br : e.bar.defects.length <= 1000000
  ct : e.cuts.length <= 1000000
  rs : e.rests.length <= 1000000
theorem formedCut_spec (e : Event) (he : EvSized e) : Sp 77 [eventV e] (DB (formedCutC e)) := by
  refine zsp Tryz.func77 ?_
  have hl1 : (e.cuts.map madeV).length = e.cuts.length := by simp
  have hl2 : (e.rests.map restV).length = e.rests.length := by simp
  have hc := he.ct
  have hrs := he.rs
  have hr : formedCutC e ↔ (∀ c ∈ e.cuts, madeC c) /\ (∀ r ∈ e.rests, restC r) /\ e.cuts.length <= 60 /\ e.rests.length <= 6 /\ 0 <= e.scrap /\ e.text = emptyB := Iff.rfl
  generalize formedCutC e = P at *
  repeat' ((conv=>whnf);first|refine zg ?_)
  refine loop_2 (A := List Made) (B := List Made) (fun D R => mkSt [(1, .box 1 0), (8, .sl (e.cuts.map madeV)), (9, I e.cuts.length), (10, I D.length)] [(1, eventC e)] []) (fun D R => e.cuts = D ++ R /\ ∀ c ∈ D, madeC c) (fun D R => R.length) [] e.cuts ?_ ⟨rfl, by simp⟩ (fun D R hp => ?_)
  · refine le_mk ?_ ?_ ?_ ?_
    all_goals repeat' (first | exact trivial | refine And.intro ?_ ?_ | with_reducible rfl | exact (fun h => by cases h) | exact Nat.le_refl _ | omega | exact rfl)
    all_goals (try rw [hl1])
  obtain ⟨hp, hD⟩ := hp
  cases R with
  | cons c R =>
    have hlen := mid_len hp
    have g1 := lident_spec c.id
    have g2 := name_spec c.part
    have hcm : c ∈ e.cuts := by rw [hp]; simp
    have hq : madeC c ↔ identC c.id /\ isName c.part /\ 1 <= c.size := Iff.rfl
    generalize identC c.id = q1 at *
    generalize isName c.part = q2 at *
    repeat' ((conv=>whnf);first|(exfalso; omega)|refine need_len (l := e.cuts) (by omega) ?_|refine idx_mid (l := e.cuts) (A := D) (x := c) (B := R) hp (by omega) ?_|refine zc g1 ?_|refine zc g2 ?_|refine zg ?_|refine za ?_|refine zn ?_|refine zz (fun _=>?_) fun _=>?_|refine zr ?_)
    all_goals conv=>whnf
    all_goals first
      | exact ret_boolD (dec_retf (fun h => absurd (hq.1 ((hr.1 h).1 c hcm)).1 (by assumption)))
      | exact ret_boolD (dec_retf (fun h => absurd (hq.1 ((hr.1 h).1 c hcm)).2.1 (by assumption)))
      | exact ret_boolD (dec_retf (fun h => by have := (hq.1 ((hr.1 h).1 c hcm)).2.2; omega))
      | skip
    refine ⟨(D ++ [c], R), ?_, ⟨by rw [hp]; simp, fun z hz => ?_⟩, by simp⟩
    · simp only [List.length_append, List.length_singleton]
      exact zj
    · rcases List.mem_append.1 hz with hz | hz
      · exact hD z hz
      · rw [List.mem_singleton.1 hz]
        exact hq.2 ⟨by assumption, by assumption, by omega⟩
  | nil =>
    have hlen : e.cuts.length = D.length := by rw [hp]; simp
    have hA : ∀ c ∈ e.cuts, madeC c := fun c h => hD c (by rw [hp, List.append_nil] at h; exact h)
    clear hD hp
    repeat' ((conv=>whnf);first|(exfalso; omega)|refine zg ?_|refine zz (fun _=>?_) fun _=>?_)
    refine loop_2 (A := List Rest) (B := List Rest) (fun D R => mkSt [(1, .box 1 0), (31, .sl (e.rests.map restV)), (32, I e.rests.length), (33, I D.length)] [(1, eventC e)] []) (fun D R => e.rests = D ++ R /\ ∀ c ∈ D, restC c) (fun D R => R.length) [] e.rests ?_ ⟨rfl, by simp⟩ (fun D R hp => ?_)
    · refine le_mk ?_ ?_ ?_ ?_
      all_goals repeat' (first | exact trivial | refine And.intro ?_ ?_ | with_reducible rfl | exact (fun h => by cases h) | exact Nat.le_refl _ | omega | exact rfl)
      all_goals (try rw [hl2])
    obtain ⟨hp, hD⟩ := hp
    cases R with
    | cons c R =>
      have hlen := mid_len hp
      have g1 := lident_spec c.id
      have hcm : c ∈ e.rests := by rw [hp]; simp
      have hq : restC c ↔ identC c.id /\ (c.box = bx0 \/ (c.lo = 0 /\ c.hi = 0)) := Iff.rfl
      generalize identC c.id = q1 at *
      repeat' ((conv=>whnf);first|(exfalso; omega)|refine need_len (l := e.rests) (by omega) ?_|refine idx_mid (l := e.rests) (A := D) (x := c) (B := R) hp (by omega) ?_|refine eqBx_i ?_|refine br_beq (a := c.box) (b := bx0) (fun hv => ?_) (fun hv => ?_)|refine zc g1 ?_|refine zg ?_|refine za ?_|refine zy ?_|refine zn ?_|refine zz (fun _=>?_) fun _=>?_|refine zr ?_)
      all_goals conv=>whnf
      all_goals first
        | exact ret_boolD (dec_retf (fun h => absurd (hq.1 ((hr.1 h).2.1 c hcm)).1 (by assumption)))
        | exact ret_boolD (dec_retf (fun h => by rcases (hq.1 ((hr.1 h).2.1 c hcm)).2 with h' | h'; exact absurd h' (by assumption); omega))
        | skip
      all_goals refine ⟨(D ++ [c], R), ?_, ⟨by rw [hp]; simp, fun z hz => ?_⟩, by simp⟩
      all_goals first
        | (rcases List.mem_append.1 hz with hz | hz
           · exact hD z hz
           · rw [List.mem_singleton.1 hz]
             first
               | exact hq.2 ⟨by assumption, .inl (by assumption)⟩
               | exact hq.2 ⟨by assumption, .inr ⟨by omega, by omega⟩⟩)
        | skip
      all_goals simp only [List.length_append, List.length_singleton]
      · exact zj
      · exact zj
    | nil =>
      have hlen2 : e.rests.length = D.length := by rw [hp]; simp
      have hB : ∀ c ∈ e.rests, restC c := fun c h => hD c (by rw [hp, List.append_nil] at h; exact h)
      clear hD hp
      repeat' ((conv=>whnf);first|(exfalso; omega)|refine zg ?_|refine zz (fun _=>?_) fun _=>?_|refine zr ?_)
      all_goals conv=>whnf
      all_goals first
        | exact ret_boolD (dec_retf (fun h => by have := hr.1 h; omega))
        | exact ret_boolD (eqS_dec ⟨fun h => hr.2 ⟨hA, hB, by omega, by omega, by omega, h⟩, fun h => (hr.1 h).2.2.2.2.2⟩)
def formedC (e : Event) : Prop :=
  ((e.kind = 1 \/ e.kind = 2) -> e.id = 0 /\ e.text = emptyB) /\ (¬ (e.kind = 1 \/ e.kind = 2) -> noSheetC e.sheet /\ noBarC e.bar) /\ (e.kind ≠ 5 -> e.cuts.length = 0 /\ e.rests.length = 0 /\ e.scrap = 0) /\
  (e.kind = 1 -> noBarC e.bar /\ validSheetC e.sheet) /\ (e.kind = 2 -> noSheetC e.sheet /\ validBarC e.bar) /\ (e.kind = 3 \/ e.kind = 7 -> isName e.text) /\ (e.kind = 4 \/ e.kind = 6 \/ e.kind = 8 -> e.text = emptyB) /\
  (e.kind = 5 -> formedCutC e) /\ 1 <= e.kind /\ e.kind <= 8
theorem formed_spec (e : Event) (he : EvSized e) : Sp 19 [eventV e] (DB (formedC e)) := by
  refine zsp Tryz.func19 ?_
  have h1 := noSheetF_spec e.sheet
  have h2 := noBar_spec e.bar
  have h3 := validSheetF_spec e.sheet he.sh
  have h4 := validBar_spec e.bar he.br
  have h5 := name_spec e.text
  have h6 := formedCut_spec e he
  have hl1 : (e.cuts.map madeV).length = e.cuts.length := by simp
  have hl2 : (e.rests.map restV).length = e.rests.length := by simp
  have hr : formedC e ↔ ((e.kind = 1 \/ e.kind = 2) -> e.id = 0 /\ e.text = emptyB) /\ (¬ (e.kind = 1 \/ e.kind = 2) -> noSheetC e.sheet /\ noBarC e.bar) /\ (e.kind ≠ 5 -> e.cuts.length = 0 /\ e.rests.length = 0 /\ e.scrap = 0) /\
    (e.kind = 1 -> noBarC e.bar /\ validSheetC e.sheet) /\ (e.kind = 2 -> noSheetC e.sheet /\ validBarC e.bar) /\ (e.kind = 3 \/ e.kind = 7 -> isName e.text) /\ (e.kind = 4 \/ e.kind = 6 \/ e.kind = 8 -> e.text = emptyB) /\
    (e.kind = 5 -> formedCutC e) /\ 1 <= e.kind /\ e.kind <= 8 := Iff.rfl
  generalize formedC e = P at *
  generalize noSheetC e.sheet = n1 at *
  generalize noBarC e.bar = n2 at *
  generalize validSheetC e.sheet = q1 at *
  generalize validBarC e.bar = q2 at *
  generalize isName e.text = q3 at *
  generalize formedCutC e = q4 at *
  have hk : e.kind = 1 \/ e.kind = 2 \/ e.kind = 3 \/ e.kind = 4 \/ e.kind = 5 \/ e.kind = 6 \/ e.kind = 7 \/ e.kind = 8 \/ (e.kind < 1 \/ 8 < e.kind) := by omega
  rcases hk with hk | hk | hk | hk | hk | hk | hk | hk | hk
  · repeat' ((conv=>whnf);first|(exfalso; omega)|refine br_eqS (fun heq => ?_) (fun heq => ?_)|refine zc h1 ?_|refine zc h2 ?_|refine zc h3 ?_|refine zg ?_|refine zi ?_|refine zn ?_|refine zz (fun _=>?_) fun _=>?_|refine zr ?_)
    all_goals conv=>whnf
    all_goals first
      | exact ret_boolD (dec_retf (fun h => by have := hr.1 h; grind))
      | exact ret_boolD (dec_dec (by grind))
      | exact ret_boolD (eqS_dec (by grind))
  · repeat' ((conv=>whnf);first|(exfalso; omega)|refine br_eqS (fun heq => ?_) (fun heq => ?_)|refine zc h1 ?_|refine zc h2 ?_|refine zc h4 ?_|refine zg ?_|refine zi ?_|refine zn ?_|refine zz (fun _=>?_) fun _=>?_|refine zr ?_)
    all_goals conv=>whnf
    all_goals first
      | exact ret_boolD (dec_retf (fun h => by have := hr.1 h; grind))
      | exact ret_boolD (dec_dec (by grind))
      | exact ret_boolD (eqS_dec (by grind))
  · repeat' ((conv=>whnf);first|(exfalso; omega)|refine zc h1 ?_|refine zc h2 ?_|refine zc h5 ?_|refine zg ?_|refine zi ?_|refine zn ?_|refine zz (fun _=>?_) fun _=>?_|refine zr ?_)
    all_goals conv=>whnf
    all_goals first
      | exact ret_boolD (dec_retf (fun h => by have := hr.1 h; grind))
      | exact ret_boolD (dec_dec (by grind))
      | exact ret_boolD (eqS_dec (by grind))
  · repeat' ((conv=>whnf);first|(exfalso; omega)|refine zc h1 ?_|refine zc h2 ?_|refine zg ?_|refine zi ?_|refine zn ?_|refine zz (fun _=>?_) fun _=>?_|refine zr ?_)
    all_goals conv=>whnf
    all_goals first
      | exact ret_boolD (dec_retf (fun h => by have := hr.1 h; grind))
      | exact ret_boolD (dec_dec (by grind))
      | exact ret_boolD (eqS_dec (by grind))
  · repeat' ((conv=>whnf);first|(exfalso; omega)|refine zc h1 ?_|refine zc h2 ?_|refine zc h6 ?_|refine zg ?_|refine zi ?_|refine zn ?_|refine zz (fun _=>?_) fun _=>?_|refine zr ?_)
    all_goals conv=>whnf
    all_goals first
      | exact ret_boolD (dec_retf (fun h => by have := hr.1 h; grind))
      | exact ret_boolD (dec_dec (by grind))
      | exact ret_boolD (eqS_dec (by grind))
  · repeat' ((conv=>whnf);first|(exfalso; omega)|refine zc h1 ?_|refine zc h2 ?_|refine zg ?_|refine zi ?_|refine zn ?_|refine zz (fun _=>?_) fun _=>?_|refine zr ?_)
    all_goals conv=>whnf
    all_goals first
      | exact ret_boolD (dec_retf (fun h => by have := hr.1 h; grind))
      | exact ret_boolD (dec_dec (by grind))
      | exact ret_boolD (eqS_dec (by grind))
  · repeat' ((conv=>whnf);first|(exfalso; omega)|refine zc h1 ?_|refine zc h2 ?_|refine zc h5 ?_|refine zg ?_|refine zi ?_|refine zn ?_|refine zz (fun _=>?_) fun _=>?_|refine zr ?_)
    all_goals conv=>whnf
    all_goals first
      | exact ret_boolD (dec_retf (fun h => by have := hr.1 h; grind))
      | exact ret_boolD (dec_dec (by grind))
      | exact ret_boolD (eqS_dec (by grind))
  · repeat' ((conv=>whnf);first|(exfalso; omega)|refine zc h1 ?_|refine zc h2 ?_|refine zg ?_|refine zi ?_|refine zn ?_|refine zz (fun _=>?_) fun _=>?_|refine zr ?_)
    all_goals conv=>whnf
    all_goals first
      | exact ret_boolD (dec_retf (fun h => by have := hr.1 h; grind))
      | exact ret_boolD (dec_dec (by grind))
      | exact ret_boolD (eqS_dec (by grind))
  · repeat' ((conv=>whnf);first|(exfalso; omega)|refine zc h1 ?_|refine zc h2 ?_|refine zg ?_|refine zi ?_|refine zn ?_|refine zz (fun _=>?_) fun _=>?_|refine zr ?_)
    all_goals conv=>whnf
    all_goals first
      | exact ret_boolD (dec_retf (fun h => by have := hr.1 h; grind))
      | exact ret_boolD (dec_dec (by grind))
      | exact ret_boolD (eqS_dec (by grind))
theorem eqIv (a b c d : Int) : eqT T 4 28 [I a, I b] [I c, I d] = some (andB (eqB a c) (andB (eqB b d) true)) := by kernel_rfl
theorem eqIv_i {a b c d : Int} {K : Bool -> Prop} (h : K (andB (eqB a c) (andB (eqB b d) true))) : aggVC.match_1 (fun _ => Prop) (eqT T 4 28 [I a, I b] [I c, I d]) K (fun _ => False) := by
  rw [eqIv]; exact h
noncomputable def upS (r : Iv) (l : List Stock) : Iv := l.foldl (fun r x => plus x.isBar r (sizeK x)) r
def upP (r : Iv) (l : List Piece) : Iv := l.foldl (fun r x => plus x.isBar r x.size) r
def balancedC (s : Inv56) : Prop := upP (upS s.scrap s.stocks) s.pieces = s.received
theorem upS_snoc (r : Iv) (D : List Stock) (x : Stock) : upS r (D ++ [x]) = plus x.isBar (upS r D) (sizeK x) := by unfold upS; simp
theorem upP_snoc (r : Iv) (D : List Piece) (x : Piece) : upP r (D ++ [x]) = plus x.isBar (upP r D) x.size := by unfold upP; simp
theorem veq_dec {a b : Iv} {p : Prop} (h : a = b ↔ p) : andB (eqB a.1 b.1) (andB (eqB a.2 b.2) true) = decB p := Bool.eq_iff_iff.2 (by rw [veq_t, decB_t]; exact h)
theorem balanced_spec (s : Inv56) (hl1 : s.stocks.length <= 1000000) (hl2 : s.pieces.length <= 1000000) (hz : ∀ x ∈ s.stocks, stockSized x) : Sp 24 [invV s] (DB (balancedC s)) := by
  refine zsp Tryz.func24 ?_
  have hm1 : (s.stocks.map stockV).length = s.stocks.length := by simp
  have hm2 : (s.pieces.map pieceV).length = s.pieces.length := by simp
  have hr : upP (upS s.scrap s.stocks) s.pieces = s.received ↔ balancedC s := Iff.rfl
  generalize balancedC s = P at *
  repeat' ((conv=>whnf);first|refine zg ?_)
  refine loop_2 (A := List Stock) (B := List Stock) (fun D R => mkSt [(1, .box 1 0), (3, .box 3 0), (11, .sl (s.stocks.map stockV)), (12, I s.stocks.length), (13, I D.length)] [(1, invC s), (3, [I (upS s.scrap D).1, I (upS s.scrap D).2])] []) (fun D R => s.stocks = D ++ R) (fun D R => R.length) [] s.stocks ?_ rfl (fun D R hp => ?_)
  · refine le_mk ?_ ?_ ?_ ?_
    all_goals repeat' (first | exact trivial | refine And.intro ?_ ?_ | with_reducible rfl | exact (fun h => by cases h) | exact Nat.le_refl _ | omega | exact rfl)
    all_goals (try rw [hm1])
  cases R with
  | cons x R =>
    have hlen := mid_len hp
    have g1 := classI_spec x.isBar
    have g2 := sizeK_spec x (hz x (by rw [hp]; simp))
    have hsn := upS_snoc s.scrap D x
    have hlD : ((D ++ [x]).length : Int) = (D.length : Int) + 1 := by simp
    generalize upS s.scrap D = r at *
    generalize sizeK x = z at *
    unfold plus at hsn
    obtain ⟨b, sh, br, p⟩ := x
    cases b
    all_goals simp only [if_true, Bool.false_eq_true, if_false] at hsn
    · repeat' ((conv=>whnf);first|(exfalso; omega)|refine need_len (l := s.stocks) (by omega) ?_|refine idx_mid (l := s.stocks) (A := D) (x := ⟨false, sh, br, p⟩) (B := R) hp (by omega) ?_|refine zc g1 ?_|refine zc g2 ?_|refine zg ?_|refine zi ?_|refine za ?_|refine zw ?_|refine zz (fun _=>?_) fun _=>?_)
      all_goals conv=>whnf
      refine ⟨(D ++ [⟨false, sh, br, p⟩], R), ?_, by rw [hp]; simp, by simp⟩
      simp only [hsn, List.length_append, List.length_singleton]
      exact zj
    · repeat' ((conv=>whnf);first|(exfalso; omega)|refine need_len (l := s.stocks) (by omega) ?_|refine idx_mid (l := s.stocks) (A := D) (x := ⟨true, sh, br, p⟩) (B := R) hp (by omega) ?_|refine zc g1 ?_|refine zc g2 ?_|refine zg ?_|refine zi ?_|refine za ?_|refine zw ?_|refine zz (fun _=>?_) fun _=>?_)
      all_goals conv=>whnf
      refine ⟨(D ++ [⟨true, sh, br, p⟩], R), ?_, by rw [hp]; simp, by simp⟩
      simp only [hsn, List.length_append, List.length_singleton]
      exact zj
  | nil =>
    have hlen : s.stocks.length = D.length := by rw [hp]; simp
    have e : s.stocks = D := by rw [hp]; simp
    rw [e] at hr
    generalize upS s.scrap D = r0 at *
    repeat' ((conv=>whnf);first|(exfalso; omega)|refine zg ?_|refine zz (fun _=>?_) fun _=>?_)
    clear hp
    refine loop_2 (A := List Piece) (B := List Piece) (fun D R => mkSt [(1, .box 1 0), (3, .box 3 0), (28, .sl (s.pieces.map pieceV)), (29, I s.pieces.length), (30, I D.length)] [(1, invC s), (3, [I (upP r0 D).1, I (upP r0 D).2])] []) (fun D R => s.pieces = D ++ R) (fun D R => R.length) [] s.pieces ?_ rfl (fun D R hp => ?_)
    · refine le_mk ?_ ?_ ?_ ?_
      all_goals repeat' (first | exact trivial | refine And.intro ?_ ?_ | with_reducible rfl | exact (fun h => by cases h) | exact Nat.le_refl _ | omega | exact rfl)
      all_goals (try rw [hm2])
    cases R with
    | cons x R =>
      have hlen2 := mid_len hp
      have g1 := classI_spec x.isBar
      have hsn := upP_snoc r0 D x
      have hlD : ((D ++ [x]).length : Int) = (D.length : Int) + 1 := by simp
      generalize upP r0 D = r at *
      unfold plus at hsn
      obtain ⟨i1, i2, i3, i4, i5, i6, b, i8, i9⟩ := x
      cases b
      all_goals simp only [if_true, Bool.false_eq_true, if_false] at hsn
      · repeat' ((conv=>whnf);first|(exfalso; omega)|refine need_len (l := s.pieces) (by omega) ?_|refine idx_mid (l := s.pieces) (A := D) (x := ⟨i1, i2, i3, i4, i5, i6, false, i8, i9⟩) (B := R) hp (by omega) ?_|refine zc g1 ?_|refine zg ?_|refine zi ?_|refine za ?_|refine zw ?_|refine zz (fun _=>?_) fun _=>?_)
        all_goals conv=>whnf
        refine ⟨(D ++ [⟨i1, i2, i3, i4, i5, i6, false, i8, i9⟩], R), ?_, by rw [hp]; simp, by simp⟩
        simp only [hsn, List.length_append, List.length_singleton]
        exact zj
      · repeat' ((conv=>whnf);first|(exfalso; omega)|refine need_len (l := s.pieces) (by omega) ?_|refine idx_mid (l := s.pieces) (A := D) (x := ⟨i1, i2, i3, i4, i5, i6, true, i8, i9⟩) (B := R) hp (by omega) ?_|refine zc g1 ?_|refine zg ?_|refine zi ?_|refine za ?_|refine zw ?_|refine zz (fun _=>?_) fun _=>?_)
        all_goals conv=>whnf
        refine ⟨(D ++ [⟨i1, i2, i3, i4, i5, i6, true, i8, i9⟩], R), ?_, by rw [hp]; simp, by simp⟩
        simp only [hsn, List.length_append, List.length_singleton]
        exact zj
    | nil =>
      have hlen2 : s.pieces.length = D.length := by rw [hp]; simp
      have e2 : s.pieces = D := by rw [hp]; simp
      rw [e2] at hr
      generalize upP r0 D = r1 at *
      repeat' ((conv=>whnf);first|(exfalso; omega)|refine zg ?_|refine zy ?_|refine zz (fun _=>?_) fun _=>?_|refine zr ?_)
      all_goals conv=>whnf
      all_goals exact ret_boolD (veq_dec hr)
end Go.Proofs.Led
