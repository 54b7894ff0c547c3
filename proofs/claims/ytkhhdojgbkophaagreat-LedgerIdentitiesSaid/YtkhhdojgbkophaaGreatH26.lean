/-
  Names, walked: letters, digits, what follows in a name.
-/
import Derived.Test.YtkhhdojgbkophaaGreatH18
import Derived.Test.YtkhhdojgbkophaaGreatH24
import Derived.Test.YtkhhdojgbkophaaGreatH25
set_option linter.unusedVariables false
set_option linter.unusedSimpArgs false
namespace Go.Proofs.Led
open Go Go.Proofs Go.Ab
set_option maxRecDepth 100000
def isLetter (c : Int) : Prop := (97 <= c /\ c <= 122) \/ (65 <= c /\ c <= 90)
def isDigit (c : Int) : Prop := 48 <= c /\ c <= 57
def isInner (c : Int) : Prop := isLetter c \/ isDigit c \/ c = 95
def isName (s : ByteArray) : Prop := 1 <= s.size /\ s.size <= 16 /\ isLetter (byteAt s 0) /\ ∀ i, i < s.size -> isInner (byteAt s i)
theorem letter_vc (c : Int) : fnVC T Tryz.prog Tryz.f149 [U c] (.lit (.bool (decB (isLetter c)))) := by
  repeat' ((conv=>whnf);first|refine zg ?_|refine zz (fun _=>?_) fun _=>?_|refine zr ?_)
  all_goals conv=>whnf
  all_goals refine ret_boolD ?_
  · exact dec_ret (by unfold isLetter; omega)
  · refine le_dec ?_
    unfold isLetter; omega
  · exact dec_retf (by unfold isLetter; omega)
  · refine le_dec ?_
    unfold isLetter; omega
  · exact dec_retf (by unfold isLetter; omega)
theorem letter_spec (c : Int) : Sp 149 [U c] (.lit (.bool (decB (isLetter c)))) := zsp Tryz.func149 (letter_vc c)
theorem digit_vc (c : Int) : fnVC T Tryz.prog Tryz.f206 [U c] (.lit (.bool (decB (isDigit c)))) := by
  repeat' ((conv=>whnf);first|refine zg ?_|refine zz (fun _=>?_) fun _=>?_|refine zr ?_)
  all_goals conv=>whnf
  all_goals refine ret_boolD ?_
  · refine le_dec ?_
    unfold isDigit; omega
  · exact dec_retf (by unfold isDigit; omega)
theorem digit_spec (c : Int) : Sp 206 [U c] (.lit (.bool (decB (isDigit c)))) := zsp Tryz.func206 (digit_vc c)
theorem inner_vc (c : Int) : fnVC T Tryz.prog Tryz.f151 [U c] (.lit (.bool (decB (isInner c)))) := by
  repeat' ((conv=>whnf);first|refine zc (letter_spec c) ?_|refine zc (digit_spec c) ?_|refine zg ?_|refine zd (fun hd=>?_) (fun hd=>?_)|refine zr ?_)
  all_goals conv=>whnf
  all_goals refine ret_boolD ?_
  · exact dec_ret (.inl hd)
  · exact dec_ret (.inr (.inl hd))
  · rename_i h1
    refine eq_dec ⟨fun h => .inr (.inr h), fun h => ?_⟩
    rcases h with h | h | h
    · exact (h1 h).elim
    · exact (hd h).elim
    · exact h
theorem inner_spec (c : Int) : Sp 151 [U c] (.lit (.bool (decB (isInner c)))) := zsp Tryz.func151 (inner_vc c)
noncomputable def wh (p : Nat -> Bool) : Nat -> Nat -> Nat
  | 0, i => i
  | f + 1, i => if p i then wh p f (i + 1) else i
theorem wh_step {p : Nat -> Bool} {f i : Nat} (h : p i = true) : wh p (f + 1) i = wh p f (i + 1) := by rw [wh, if_pos h]
theorem wh_stop {p : Nat -> Bool} {f i : Nat} (h : p i = false) : wh p (f + 1) i = i := by rw [wh, if_neg (by simp [h])]
theorem wh_le (p : Nat -> Bool) : ∀ f i, wh p f i <= i + f
  | 0, i => Nat.le_refl _
  | f + 1, i => by rw [wh]; split
                   · have := wh_le p f (i + 1); omega
                   · omega
theorem wh_all (p : Nat -> Bool) : ∀ f i, wh p f i = i + f ↔ ∀ j, i <= j -> j < i + f -> p j = true
  | 0, i => by simp [wh]; omega
  | f + 1, i => by
    rw [wh]
    split
    · rename_i h
      have := wh_all p f (i + 1)
      rw [show i + (f + 1) = i + 1 + f by omega, this]
      constructor
      · intro h1 j hj hj2
        rcases Nat.eq_or_lt_of_le hj with rfl | hlt
        · exact h
        · exact h1 j hlt hj2
      · intro h1 j hj hj2
        exact h1 j (by omega) hj2
    · rename_i h
      constructor
      · intro h1; omega
      · intro h1; exact (h (h1 i (Nat.le_refl _) (by omega))).elim
noncomputable def whS (K : Int -> Prop) (s : ByteArray) (i : Nat) : Nat := wh (fun j => decB (K (byteAt s j))) (s.size - i) i
theorem while_vc {g : FuncId} {Kd : Int -> Prop} (hg : ∀ c, Sp g [U c] (.lit (.bool (decB (Kd c))))) (s : ByteArray) (i : Nat) (hs : s.size <= 1000000000) :
    fnVC T Tryz.prog Tryz.f150 [S s, I i, .fn g []] (I (whS Kd s i)) := by
  repeat' ((conv=>whnf);first|refine zg ?_)
  refine loop_i (A := Nat) (fun k => mkSt [(0, S s), (1, I k), (2, .fn g [])] [] []) (fun k => whS Kd s k = whS Kd s i) (fun k => s.size - k) i ?_ rfl (fun k hk => ?_)
  · exact zj
  · change whS Kd s k = whS Kd s i at hk
    rcases Nat.lt_or_ge k s.size with hlt | hge
    · obtain ⟨f, hf⟩ : ∃ f, s.size - k = f + 1 := ⟨s.size - k - 1, by omega⟩
      have hks : whS Kd s k = wh (fun j => decB (Kd (byteAt s j))) (f + 1) k := by unfold whS; rw [hf]
      repeat' ((conv=>whnf);first|(exfalso; omega)|refine zc (hg (byteAt s k)) ?_|refine zg ?_|refine za ?_|refine zo ?_|refine zd (fun hd=>?_) (fun hd=>?_)|refine zl (fun hlt=>?_) (fun hlt=>?_)|refine zr ?_)
      · conv => whnf
        refine ⟨k + 1, ?_, ?_, by omega⟩
        · refine le_mk ?_ ?_ ?_ ?_
          all_goals repeat' (first | exact trivial | refine And.intro ?_ ?_ | with_reducible rfl | exact (fun h => by cases h) | exact Nat.le_refl _ | omega | exact rfl)
        · show whS Kd s (k + 1) = _
          rw [<- hk, hks, wh_step (decB_t.2 hd)]
          unfold whS
          rw [show s.size - (k + 1) = f by omega]
      · conv => whnf
        refine ret_int ?_
        rw [<- hk, hks, wh_stop (decB_f.2 hd)]
    · have hks : whS Kd s k = k := by unfold whS; rw [show s.size - k = 0 by omega]; rfl
      repeat' ((conv=>whnf);first|(exfalso; omega)|refine zg ?_|refine zl (fun hlt=>?_) (fun hlt=>?_)|refine zr ?_)
      conv => whnf
      refine ret_int ?_
      rw [<- hk, hks]
theorem while_spec {g : FuncId} {Kd : Int -> Prop} (hg : ∀ c, Sp g [U c] (.lit (.bool (decB (Kd c))))) (s : ByteArray) (i : Nat) (hs : s.size <= 1000000000) :
    Sp 150 [S s, I i, .fn g []] (I (whS Kd s i)) := zsp Tryz.func150 (while_vc hg s i hs)
theorem name_vc (s : ByteArray) : fnVC T Tryz.prog Tryz.f76 [S s] (.lit (.bool (decB (isName s)))) := by
  have hz := size_zero (s := s)
  rcases Nat.lt_or_ge 16 s.size with hbig | hsm
  · repeat' ((conv=>whnf);first|refine br_eqS (fun heq => ?_) (fun heq => ?_)|(exfalso; omega)|refine zg ?_|refine zn ?_|refine zk (fun hle=>?_) (fun hle=>?_)|refine zr ?_)
    all_goals conv=>whnf
    all_goals refine ret_boolD ?_
    all_goals exact dec_retf (fun h => by have := h.2.1; omega)
  · repeat' ((conv=>whnf);first|refine br_eqS (fun heq => ?_) (fun heq => ?_)|(exfalso; omega)|refine need_str ⟨by omega, by have := mt hz.1 heq; omega⟩ ?_|refine zc (letter_spec (byteAt s 0)) ?_|refine zc (while_spec inner_spec s 0 (by omega)) ?_|refine zg ?_|refine zn ?_|refine zd (fun hd=>?_) (fun hd=>?_)|refine zk (fun hle=>?_) (fun hle=>?_)|refine zr ?_)
    all_goals conv=>whnf
    all_goals refine ret_boolD ?_
    · exact dec_retf (fun h => by have := h.1; have := hz.2 heq; omega)
    · refine eq_dec ?_
      have hw := wh_all (fun j => decB (isInner (byteAt s j))) s.size 0
      have hs0 : whS isInner s 0 = wh (fun j => decB (isInner (byteAt s j))) s.size 0 := rfl
      have hne := mt hz.1 heq
      rw [<- hs0, Nat.zero_add] at hw
      have e : (((whS isInner s 0 : Nat) : Int) = (s.size : Int)) ↔ whS isInner s 0 = s.size := by omega
      show (((whS isInner s 0 : Nat) : Int) = (s.size : Int)) ↔ _
      rw [e, hw]
      constructor
      · intro h
        exact ⟨by omega, hsm, hd, fun i hi => decB_t.1 (h i (Nat.zero_le _) (by omega))⟩
      · intro h j _ hj
        exact decB_t.2 (h.2.2.2 j (by omega))
    · exact dec_retf (fun h => hd h.2.2.1)
theorem name_spec (s : ByteArray) : Sp 76 [S s] (.lit (.bool (decB (isName s)))) := zsp Tryz.func76 (name_vc s)
end Go.Proofs.Led
namespace Go.Proofs.Led
open Go Go.Proofs Go.Ab
set_option maxRecDepth 100000
set_option maxHeartbeats 4000000
def labelC (id : Int) (g h : ByteArray) : Prop := 1 <= id /\ id <= 1000000 /\ isName g /\ isName h
theorem label_spec (id : Int) (g h : ByteArray) : Sp 91 [.agg [I id, S g, S h]] (DB (labelC id g h)) := by
  refine zsp Tryz.func91 ?_
  have h1 := name_spec g
  have h2 := name_spec h
  have hr : labelC id g h ↔ 1 <= id /\ id <= 1000000 /\ isName g /\ isName h := Iff.rfl
  generalize labelC id g h = P at *
  generalize isName g = p1 at *
  generalize isName h = p2 at *
  repeat' ((conv=>whnf);first|refine zc h1 ?_|refine zc h2 ?_|refine zg ?_|refine zz (fun _=>?_) fun _=>?_|refine zr ?_)
  all_goals conv=>whnf
  all_goals first
    | exact ret_boolD (dec_dec ⟨fun h => hr.2 ⟨by omega, by omega, by assumption, h⟩, fun h => (hr.1 h).2.2.2⟩)
    | exact ret_boolD (dec_retf (fun h => absurd (hr.1 h).2.2.1 (by assumption)))
    | exact ret_boolD (dec_retf (fun h => by have := hr.1 h; omega))
    | exact ret_boolD (le_dec ⟨fun h => by omega, fun h => by have := hr.1 h; omega⟩)
theorem barOf_spec (b : Bar) : Sp 90 [barV b] (.agg ([I b.id, S b.grade, S b.heat] ++ barC b)) := by
  refine zsp Tryz.func90 ?_
  repeat' ((conv=>whnf);first|refine zg ?_|refine zr ?_)
  all_goals conv=>whnf
  all_goals first|exact ret_int rfl|exact ret_bool rfl|exact ret_lit rfl|exact zt|exact zu
theorem sheetOf_spec (s : Sheet) : Sp 92 [sheetV s] (.agg ([I s.id, S s.grade, S s.heat] ++ sheetC s)) := by
  refine zsp Tryz.func92 ?_
  repeat' ((conv=>whnf);first|refine zg ?_|refine zr ?_)
  all_goals conv=>whnf
  all_goals first|exact ret_int rfl|exact ret_bool rfl|exact ret_lit rfl|exact zt|exact zu
theorem beginR_len {r : Rg} (hr : r ≠ []) : (beginR r).length <= r.length + r.length := by
  unfold beginR
  rw [List.length_append, List.length_drop, List.length_take]
  omega
theorem canon_sized {s : Sh} (h : shapeOk s) : Sized (canonS s) := by
  have hl : ∀ r ∈ rings s, (canonR r).length <= 1000000 := fun r hr => by
    obtain ⟨h3, h40, _⟩ := h.2.1 r hr
    rw [canonR_t (h.2.1 r hr)]
    have := beginR_len (r := r) (fun e => by rw [e] at h3; simp at h3)
    omega
  rw [canonS_t h]
  refine ⟨hl s.outer (by unfold rings; simp), ?_, fun r hr => ?_⟩
  · unfold canonH
    rw [isortP_len, List.length_map]
    have := h.1
    omega
  · unfold canonH at hr
    rw [isortP_mem] at hr
    obtain ⟨q, hq, rfl⟩ := List.mem_map.1 hr
    exact hl q (by unfold rings; simp [hq])
noncomputable def canonC (s : Sh) : Prop := shapeOk s /\ s = canonS s
theorem canonC_spec (s : Sh) (hs : Sized s) : Sp 93 [shV s] (DB (canonC s)) := by
  refine zsp Tryz.func93 ?_
  have h1 := shapeOk_spec s hs
  have h2 := canonS_spec s hs
  by_cases h : shapeOk s
  · have h3 := sameS_spec s (canonS s) hs (canon_sized h)
    have e1 : DB (canonC s) = DB (s = canonS s) := congrArg (fun b => V.lit (.bool b)) (dec_dec ⟨fun h => h.2, fun q => ⟨h, q⟩⟩)
    rw [e1]
    repeat' ((conv=>whnf);first|(exfalso; contradiction)|refine zc h1 ?_|refine zc h2 ?_|refine zc h3 ?_|refine zg ?_|refine zi ?_|refine zz (fun _=>?_) fun _=>?_|refine zr ?_)
    all_goals conv=>whnf
    all_goals first|exact ret_int rfl|exact ret_bool rfl|exact ret_lit rfl|exact zt|exact zu
  · have e1 : DB (canonC s) = .lit (.bool false) := congrArg (fun b => V.lit (.bool b)) (decB_f.2 (fun q => h q.1))
    rw [e1]
    repeat' ((conv=>whnf);first|(exfalso; contradiction)|refine zc h1 ?_|refine zg ?_|refine zi ?_|refine zz (fun _=>?_) fun _=>?_|refine zr ?_)
    all_goals conv=>whnf
    all_goals first|exact ret_int rfl|exact ret_bool rfl|exact ret_lit rfl|exact zt|exact zu
def onSheetC (v : Vc) : Prop := 0 <= min v.1 v.2 /\ max v.1 v.2 <= 1900
theorem onSheet_spec (v : Vc) : Sp 95 [vcV v] (DB (onSheetC v)) := by
  refine zsp Tryz.func95 ?_
  have hr : onSheetC v ↔ 0 <= min v.1 v.2 /\ max v.1 v.2 <= 1900 := Iff.rfl
  generalize onSheetC v = P at *
  repeat' ((conv=>whnf);first|refine zg ?_|refine zz (fun _=>?_) fun _=>?_|refine zr ?_)
  all_goals conv=>whnf
  all_goals (try simp only [minI_eq, maxI_eq] at *)
  all_goals first
    | exact ret_boolD (le_dec ⟨fun h => hr.2 ⟨by omega, by omega⟩, fun h => by have := hr.1 h; omega⟩)
    | exact ret_boolD (dec_retf (fun h => by have := hr.1 h; omega))
def wideC (b : Bx) : Prop := b.1.1 < b.2.1 /\ b.1.2 < b.2.2
theorem wide_spec (b : Bx) : Sp 297 [bxV b] (DB (wideC b)) := by
  refine zsp Tryz.func297 ?_
  have hr : wideC b ↔ b.1.1 < b.2.1 /\ b.1.2 < b.2.2 := Iff.rfl
  generalize wideC b = P at *
  repeat' ((conv=>whnf);first|refine zg ?_|refine zz (fun _=>?_) fun _=>?_|refine zr ?_)
  all_goals conv=>whnf
  all_goals first
    | exact ret_boolD (lt_dec ⟨fun h => hr.2 ⟨by omega, by omega⟩, fun h => by have := hr.1 h; omega⟩)
    | exact ret_boolD (dec_retf (fun h => by have := hr.1 h; omega))
def commonB (a b : Bx) : Bx := ((max a.1.1 b.1.1, max a.1.2 b.1.2), (min a.2.1 b.2.1, min a.2.2 b.2.2))
theorem common_spec (a b : Bx) : Sp 299 [bxV a, bxV b] (.tup [bxV (commonB a b), DB (wideC (commonB a b))]) := by
  refine zsp Tryz.func299 ?_
  have h1 := wide_spec (commonB a b)
  unfold commonB at h1 ⊢
  simp only [<- maxI_eq, <- minI_eq] at h1 ⊢
  repeat' ((conv=>whnf);first|refine zc h1 ?_|refine zg ?_|refine zi ?_|refine zr ?_)
  all_goals conv=>whnf
  all_goals first|exact ret_int rfl|exact ret_bool rfl|exact ret_lit rfl|exact zt|exact zu
noncomputable def rectC (b : Bx) (by_ : Vc) : Sh := canonS (rectS (vsub b.1 by_) (vsub b.2 by_))
theorem rect_sized (lo hi : Vc) : Sized (rectS lo hi) := by
  unfold rectS
  split
  · exact ⟨by simp [sh0], by simp [sh0], fun r hr => by simp [sh0] at hr⟩
  · exact ⟨by simp, by simp, fun r hr => by simp at hr⟩
theorem rectC_spec (b : Bx) (v : Vc) : Sp 298 [bxV b, vcV v] (shV (rectC b v)) := by
  refine zsp Tryz.func298 ?_
  have h1 := vsub_spec b.1 v
  have h2 := vsub_spec b.2 v
  have h3 := rectS_spec (vsub b.1 v) (vsub b.2 v)
  have h4 := canonS_spec _ (rect_sized (vsub b.1 v) (vsub b.2 v))
  unfold rectC
  generalize vsub b.1 v = p at *
  generalize vsub b.2 v = q at *
  generalize rectS p q = r at *
  generalize canonS r = r' at *
  repeat' ((conv=>whnf);first|refine zc h1 ?_|refine zc h2 ?_|refine zc h3 ?_|refine zc h4 ?_|refine zg ?_|refine zi ?_|refine zr ?_)
  all_goals conv=>whnf
  all_goals first|exact ret_int rfl|exact ret_bool rfl|exact ret_lit rfl|exact zt|exact zu
def defOk (len : Int) : Int -> List Iv -> Prop
  | _, [] => True
  | e, d :: R => e <= d.1 /\ d.1 < d.2 /\ d.2 <= len /\ defOk len d.2 R
def validBarC (b : Bar) : Prop := labelC b.id b.grade b.heat /\ 1 <= b.length /\ b.length <= 2000 /\ b.defects.length <= 6 /\ defOk b.length 0 b.defects
def lastE (D : List Iv) : Int := match D.getLast? with | some d => d.2 | none => 0
theorem lastE_snoc (D : List Iv) (d : Iv) : lastE (D ++ [d]) = d.2 := by unfold lastE; simp
theorem validBar_spec (b : Bar) (hb : b.defects.length <= 1000000) : Sp 32 [barV b] (DB (validBarC b)) := by
  refine zsp Tryz.func32 ?_
  have h1 := barOf_spec b
  have h2 := label_spec b.id b.grade b.heat
  have hr : validBarC b ↔ labelC b.id b.grade b.heat /\ 1 <= b.length /\ b.length <= 2000 /\ b.defects.length <= 6 /\ defOk b.length 0 b.defects := Iff.rfl
  have hl : (b.defects.map ivV).length = b.defects.length := by simp
  generalize validBarC b = P at *
  generalize labelC b.id b.grade b.heat = p1 at *
  repeat' ((conv=>whnf);first|refine zc h1 ?_|refine zc h2 ?_|refine zg ?_|refine zn ?_|refine zz (fun _=>?_) fun _=>?_|refine zr ?_)
  all_goals conv=>whnf
  all_goals first
    | exact ret_boolD (dec_retf (fun h => absurd (hr.1 h).1 (by assumption)))
    | exact ret_boolD (dec_retf (fun h => by have := hr.1 h; omega))
    | skip
  have hP : P ↔ defOk b.length 0 b.defects := ⟨fun h => (hr.1 h).2.2.2.2, fun h => hr.2 ⟨by assumption, by omega, by omega, by omega, h⟩⟩
  clear hr
  refine loop_2 (A := List Iv) (B := List Iv) (fun D R => mkSt [(1, .box 1 0), (3, I (lastE D)), (28, .sl (b.defects.map ivV)), (29, I b.defects.length), (30, I D.length)] [(1, barC b)] []) (fun D R => b.defects = D ++ R /\ (P ↔ defOk b.length (lastE D) R)) (fun D R => R.length) [] b.defects ?_ ⟨rfl, hP⟩ (fun D R hp => ?_)
  · refine le_mk ?_ ?_ ?_ ?_
    all_goals repeat' (first | exact trivial | refine And.intro ?_ ?_ | with_reducible rfl | exact (fun h => by cases h) | exact Nat.le_refl _ | omega | exact rfl)
    all_goals (try rw [hl])
  obtain ⟨hp, hq⟩ := hp
  cases R with
  | nil =>
    have hlen : b.defects.length = D.length := by rw [hp]; simp
    repeat' ((conv=>whnf);first|(exfalso; omega)|refine zg ?_|refine zz (fun _=>?_) fun _=>?_|refine zr ?_)
    all_goals conv=>whnf
    exact ret_boolD (dec_ret (hq.2 trivial))
  | cons d R =>
    have hlen := mid_len hp
    have hq2 : P ↔ lastE D <= d.1 /\ d.1 < d.2 /\ d.2 <= b.length /\ defOk b.length d.2 R := hq
    repeat' ((conv=>whnf);first|(exfalso; omega)|refine need_len (l := b.defects) (by omega) ?_|refine idx_mid (l := b.defects) (A := D) (x := d) (B := R) hp (by omega) ?_|refine zg ?_|refine za ?_|refine zz (fun _=>?_) fun _=>?_|refine zr ?_)
    all_goals conv=>whnf
    all_goals first
      | exact ret_boolD (dec_retf (fun h => by have := hq2.1 h; omega))
      | skip
    refine ⟨(D ++ [d], R), ?_, ⟨by rw [hp]; simp, ?_⟩, by simp⟩
    · simp only [lastE_snoc, List.length_append, List.length_singleton]
      refine le_mk ?_ ?_ ?_ ?_
      all_goals repeat' (first | exact trivial | refine And.intro ?_ ?_ | with_reducible rfl | exact (fun h => by cases h) | exact Nat.le_refl _ | omega | exact rfl)
    · show P ↔ defOk b.length (lastE (D ++ [d])) R
      rw [lastE_snoc, hq2]
      exact ⟨fun h => h.2.2.2, fun h => ⟨by omega, by omega, by omega, h⟩⟩
theorem icI_vc {g : FuncId}  {Q : Int -> Prop} (hg : ∀ m, Sp g (I m :: []) (DB (Q m))) (l : List Int) (hl : l.length <= 1000000) : fnVC T Tryz.prog Tryz.f370 [.sl (l.map I), .fn g []] (I (fstI Q l)) := by
  have hll : (l.map I).length = l.length := by simp
  repeat' ((conv=>whnf);first|refine zg ?_)
  refine loop_2 (A := List Int) (B := List Int) (fun D R => mkSt [(0, .sl (l.map I)), (1, .fn g []), (7, I l.length), (8, I D.length)] [] [])
    (fun D R => l = D ++ R /\ ∀ m ∈ D, ¬ Q m) (fun D R => R.length) [] l ?_ ⟨rfl, by simp⟩ (fun D R hp => ?_)
  · exact zj
  · obtain ⟨h1, h2⟩ := hp
    have hlen : l.length = D.length + R.length := by rw [h1]; simp
    have hD : ∀ y ∈ D, (!decB (Q y)) = true := fun y hy => by rw [decB_f.2 (h2 y hy)]; rfl
    cases R with
    | nil =>
      have e : l = D := by rw [h1]; simp
      simp at hlen
      repeat' ((conv=>whnf);first|(exfalso; omega)|refine zg ?_|refine zl (fun hlt=>?_) (fun hlt=>?_)|refine zr ?_)
      conv => whnf
      refine ret_int ?_
      unfold fstI
      rw [if_neg (fst_none.2 (by rw [e]; exact h2))]
    | cons x R =>
      rw [List.length_cons] at hlen
      repeat' ((conv=>whnf);first|(exfalso; omega)|refine idx_mid (l := l) (A := D) (x := x) (B := R) h1 (by omega) ?_|refine zc (hg x) ?_|refine zg ?_|refine za ?_|refine zo ?_|refine zd (fun hd=>?_) (fun hd=>?_)|refine zl (fun hlt=>?_) (fun hlt=>?_)|refine zr ?_)
      · conv => whnf
        refine ret_int ?_
        have e : fst Q l = D.length := by unfold fst; rw [h1]; exact tw_stop hD (by rw [decB_t.2 hd]; rfl)
        unfold fstI
        rw [e, if_pos (by omega)]
      · conv => whnf
        refine ⟨(D ++ [x], R), ?_, ⟨?_, ?_⟩, ?_⟩
        · refine le_mk ?_ ?_ ?_ ?_
          all_goals repeat' (first | exact trivial | refine And.intro ?_ ?_ | with_reducible rfl | exact (fun h => by cases h) | exact Nat.le_refl _ | omega | exact rfl)
          · show (D.length : Int) + 1 = (D ++ [x]).length
            simp
        · show l = D ++ [x] ++ R
          rw [h1]; simp
        · intro m hm
          rcases List.mem_append.1 hm with hm | hm
          · exact h2 m hm
          · rw [List.mem_singleton.1 hm]; exact hd
        · show R.length < (x :: R).length
          simp
theorem icI_spec {g : FuncId}  {Q : Int -> Prop} (hg : ∀ m, Sp g (I m :: []) (DB (Q m))) (l : List Int) (hl : l.length <= 1000000) : Sp 370 [.sl (l.map I), .fn g []] (I (fstI Q l)) := zsp Tryz.func370 (icI_vc hg l hl)
theorem icC_vc {g : FuncId}  {Q : Int -> Prop} (hg : ∀ m, Sp g (I m :: []) (DB (Q m))) (l : List Int) (hl : l.length <= 1000000) : fnVC T Tryz.prog Tryz.f345 [.sl (l.map I), .fn g []] (DB (∃ m ∈ l, Q m)) := by
  repeat' ((conv=>whnf);first|refine zc (icI_spec hg l hl) ?_|refine zg ?_|refine zr ?_)
  conv => whnf
  refine ret_boolD (le_dec ?_)
  have h := fst_none (Q := Q) (l := l)
  unfold fstI
  constructor
  · intro h0
    split at h0
    · rename_i hlt
      exact Classical.byContradiction fun hn => (h.2 (fun m hm hq => hn ⟨m, hm, hq⟩)) hlt
    · omega
  · rintro ⟨m, hm, hq⟩
    split
    · omega
    · rename_i hlt
      exact (h.1 hlt m hm hq).elim
theorem icC_spec {g : FuncId}  {Q : Int -> Prop} (hg : ∀ m, Sp g (I m :: []) (DB (Q m))) (l : List Int) (hl : l.length <= 1000000) : Sp 345 [.sl (l.map I), .fn g []] (DB (∃ m ∈ l, Q m)) := zsp Tryz.func345 (icC_vc hg l hl)
theorem noId_spec (n : Int) : Sp 346 [I n] (DB (n < 1 \/ 1000000 < n)) := by
  refine zsp Tryz.func346 ?_
  repeat' ((conv=>whnf);first|refine zg ?_|refine zz (fun _=>?_) fun _=>?_|refine zr ?_)
  all_goals conv=>whnf
  all_goals first
    | exact ret_boolD (dec_ret (by omega))
    | exact ret_boolD (lt_dec ⟨fun h => by omega, fun h => by omega⟩)
def identC (n : Int) : Prop := 1 <= n /\ n <= 1000000
theorem ident_spec (n : Int) : Sp 296 [.sl [I n]] (DB (identC n)) := by
  refine zsp Tryz.func296 ?_
  have h1 := icC_spec (g := 346) (Q := fun n => n < 1 \/ 1000000 < n) (fun m => noId_spec m) [n] (by simp)
  have h2 : DB (∃ m ∈ [n], m < 1 \/ 1000000 < m) = DB (n < 1 \/ 1000000 < n) := congrArg (fun b => V.lit (.bool b)) (dec_dec ⟨fun ⟨m, h, h'⟩ => by rw [List.mem_singleton.1 h] at h'; exact h', fun h => ⟨n, by simp, h⟩⟩)
  rw [h2] at h1
  repeat' ((conv=>whnf);first|refine zc h1 ?_|refine zg ?_|refine zr ?_)
  all_goals conv=>whnf
  all_goals exact ret_boolD (not_dec (decB_f.trans ⟨fun h => by unfold identC; omega, fun h => by unfold identC at h; omega⟩))
noncomputable def defectC (s d : Sh) : Prop := canonC d /\ InsideE s d = 0 /\ InsideB s d
noncomputable def validSheetC (s : Sheet) : Prop := labelC s.id s.grade s.heat /\ 0 <= s.grain /\ s.grain <= 2 /\ canonC s.shape /\ s.defects.length <= 6 /\ onSheetC (boxS s.shape).1.1 /\ onSheetC (boxS s.shape).1.2 /\ ∀ d ∈ s.defects, defectC s.shape d
theorem validSheet_spec (s : Sheet) (hs : sheetSized s) : Sp 33 [sheetV s] (DB (validSheetC s)) := by
  refine zsp Tryz.func33 ?_
  obtain ⟨hs1, hs2, hs3⟩ := hs
  have h1 := sheetOf_spec s
  have h2 := label_spec s.id s.grade s.heat
  have h3 := canonC_spec s.shape hs1
  have h4 := boxS_spec s.shape hs1
  have h5 := onSheet_spec (boxS s.shape).1.1
  have h6 := onSheet_spec (boxS s.shape).1.2
  have hr : validSheetC s ↔ labelC s.id s.grade s.heat /\ 0 <= s.grain /\ s.grain <= 2 /\ canonC s.shape /\ s.defects.length <= 6 /\ onSheetC (boxS s.shape).1.1 /\ onSheetC (boxS s.shape).1.2 /\ ∀ d ∈ s.defects, defectC s.shape d := Iff.rfl
  have hl : (s.defects.map shV).length = s.defects.length := by simp
  have hdf : ∀ d, defectC s.shape d ↔ canonC d /\ InsideE s.shape d = 0 /\ InsideB s.shape d := fun d => Iff.rfl
  generalize validSheetC s = P at *
  generalize labelC s.id s.grade s.heat = p1 at *
  generalize canonC s.shape = p2 at *
  generalize onSheetC (boxS s.shape).1.1 = p3 at *
  generalize onSheetC (boxS s.shape).1.2 = p4 at *
  repeat' ((conv=>whnf);first|refine zc h1 ?_|refine zc h2 ?_|refine zc h3 ?_|refine zc h4 ?_|refine zc h5 ?_|refine zc h6 ?_|refine zg ?_|refine zn ?_|refine zz (fun _=>?_) fun _=>?_|refine zr ?_)
  all_goals conv=>whnf
  all_goals first
    | exact ret_boolD (dec_retf (fun h => absurd (hr.1 h).1 (by assumption)))
    | exact ret_boolD (dec_retf (fun h => absurd (hr.1 h).2.2.2.1 (by assumption)))
    | exact ret_boolD (dec_retf (fun h => absurd (hr.1 h).2.2.2.2.2.1 (by assumption)))
    | exact ret_boolD (dec_retf (fun h => absurd (hr.1 h).2.2.2.2.2.2.1 (by assumption)))
    | exact ret_boolD (dec_retf (fun h => by have := (hr.1 h).2.1; have := (hr.1 h).2.2.1; have := (hr.1 h).2.2.2.2.1; omega))
    | skip
  have hP : P ↔ ∀ d ∈ s.defects, defectC s.shape d := ⟨fun h => (hr.1 h).2.2.2.2.2.2.2, fun h => hr.2 ⟨by assumption, by omega, by omega, by assumption, by omega, by assumption, by assumption, h⟩⟩
  clear hr
  refine loop_2 (A := List Sh) (B := List Sh) (fun D R => mkSt [(1, .box 1 0), (53, .sl (s.defects.map shV)), (54, I s.defects.length), (55, I D.length)] [(1, sheetC s)] []) (fun D R => s.defects = D ++ R /\ ∀ d ∈ D, defectC s.shape d) (fun D R => R.length) [] s.defects ?_ ⟨rfl, by simp⟩ (fun D R hp => ?_)
  · refine le_mk ?_ ?_ ?_ ?_
    all_goals repeat' (first | exact trivial | refine And.intro ?_ ?_ | with_reducible rfl | exact (fun h => by cases h) | exact Nat.le_refl _ | omega | exact rfl)
    all_goals (try rw [hl])
  obtain ⟨hp, hD⟩ := hp
  cases R with
  | nil =>
    have hlen : s.defects.length = D.length := by rw [hp]; simp
    repeat' ((conv=>whnf);first|(exfalso; omega)|refine zg ?_|refine zz (fun _=>?_) fun _=>?_|refine zr ?_)
    all_goals conv=>whnf
    refine ret_boolD (dec_ret (hP.2 fun d h => ?_))
    rw [hp, List.append_nil] at h
    exact hD d h
  | cons d R =>
    have hlen := mid_len hp
    have hdm : d ∈ s.defects := by rw [hp]; simp
    have g1 := Inside_spec s.shape d hs1 (hs3 d hdm)
    have g2 := canonC_spec d (hs3 d hdm)
    have hq := hdf d
    generalize canonC d = q1 at *
    generalize InsideE s.shape d = q2 at *
    generalize InsideB s.shape d = q3 at *
    repeat' ((conv=>whnf);first|(exfalso; omega)|refine need_len (l := s.defects) (by omega) ?_|refine idx_mid (l := s.defects) (A := D) (x := d) (B := R) hp (by omega) ?_|refine zc g1 ?_|refine zc g2 ?_|refine zg ?_|refine za ?_|refine zn ?_|refine zz (fun _=>?_) fun _=>?_|refine zr ?_)
    all_goals conv=>whnf
    all_goals first
      | exact ret_boolD (dec_retf (fun h => absurd (hq.1 (hP.1 h d hdm)).1 (by assumption)))
      | exact ret_boolD (dec_retf (fun h => absurd (hq.1 (hP.1 h d hdm)).2.1 (by assumption)))
      | exact ret_boolD (dec_retf (fun h => absurd (hq.1 (hP.1 h d hdm)).2.2 (by assumption)))
      | skip
    refine ⟨(D ++ [d], R), ?_, ⟨by rw [hp]; simp, fun z hz => ?_⟩, by simp⟩
    · simp only [List.length_append, List.length_singleton]
      exact zj
    · rcases List.mem_append.1 hz with hz | hz
      · exact hD z hz
      · rw [List.mem_singleton.1 hz]
        exact hq.2 ⟨by assumption, by assumption, by assumption⟩
noncomputable def cutDef (b : Bx) (d : Sh) : List Sh := open Classical in if wideC (commonB (boxS d).1 b) then [rectC (commonB (boxS d).1 b) b.1] else []
noncomputable def cutDefs (b : Bx) (l : List Sh) : List Sh := l.flatMap (cutDef b)
noncomputable def remE (s : Sheet) (b : Bx) (id : Int) : Int := open Classical in
  if ¬ validSheetC s then 1 else if ¬ (identC id /\ wideC b /\ onSheetC b.1 /\ onSheetC b.2) then 2 else if ¬ InsideB s.shape (rectC b (0, 0)) then 13 else 0
noncomputable def remS (s : Sheet) (b : Bx) (id : Int) : Sheet := if remE s b id = 0 then ⟨id, s.grade, s.heat, s.grain, rectC b b.1, cutDefs b s.defects⟩ else sheet0
theorem rectC_sized (b : Bx) (v : Vc) : Sized (rectC b v) := by
  unfold rectC
  by_cases h : shapeOk (rectS (vsub b.1 v) (vsub b.2 v))
  · exact canon_sized h
  · rw [canonS_f h]
    exact ⟨by simp [sh0], by simp [sh0], fun r hr => by simp [sh0] at hr⟩
theorem cutDefs_snoc (b : Bx) (D : List Sh) (d : Sh) : cutDefs b (D ++ [d]) = cutDefs b D ++ cutDef b d := by unfold cutDefs; simp
theorem cutDefs_le (b : Bx) : ∀ D : List Sh, (cutDefs b D).length <= D.length
  | [] => Nat.le_refl _
  | d :: D => by
    have h := cutDefs_le b D
    have h2 : (cutDef b d).length <= 1 := by unfold cutDef; split <;> simp
    unfold cutDefs at h ⊢
    rw [List.flatMap_cons, List.length_append, List.length_cons]
    omega
theorem sh_cells (l : List Sh) : ∀ y ∈ l.map shV, y.cells.length = 2 := fun y hy => by obtain ⟨m, _, rfl⟩ := List.mem_map.1 hy; rfl
noncomputable def remSt (s : Sheet) (b : Bx) (id : Int) (r : Sh) (X : List Sh) (n : Int) : St := match X with
  | [] => mkSt [(3, .box 3 0), (4, .box 4 0), (6, .box 6 0), (7, I 0), (10, .box 10 0), (68, .sl (s.defects.map shV)), (69, I s.defects.length), (70, I n)]
    [(3, sheetC s), (4, (bxV b).cells), (6, [I 0, S emptyB, S emptyB, I 0, nilV, nilV, nilV]), (10, [I id, S s.grade, S s.heat, I s.grain, rgV r.outer, .sl (r.holes.map rgV), nilV])] []
  | x :: X => mkSt [(3, .box 3 0), (4, .box 4 0), (6, .box 6 0), (7, I 0), (10, .box 10 0), (68, .sl (s.defects.map shV)), (69, I s.defects.length), (70, I n)]
    [(3, sheetC s), (4, (bxV b).cells), (6, [I 0, S emptyB, S emptyB, I 0, nilV, nilV, nilV]), (10, [I id, S s.grade, S s.heat, I s.grain, rgV r.outer, .sl (r.holes.map rgV), .arr 93 X.length])] [(93, ⟨X.length, .own, 42, (x :: X).map shV⟩)]
theorem remnant_spec (s : Sheet) (b : Bx) (id : Int) (hs : sheetSized s) : Sp 245 [sheetV s, bxV b, I id] (.tup [sheetV (remS s b id), I (remE s b id)]) := by
  refine zsp Tryz.func245 ?_
  have h1 := validSheet_spec s hs
  have h2 := ident_spec id
  have h3 := wide_spec b
  have h4 := onSheet_spec b.1
  have h5 := onSheet_spec b.2
  have h6 := rectC_spec b (0, 0)
  have h7 := Inside_spec s.shape (rectC b (0, 0)) hs.1 (rectC_sized b (0, 0))
  have h8 := rectC_spec b b.1
  by_cases c1 : validSheetC s
  rotate_left
  · have e1 : remE s b id = 1 := by unfold remE; rw [if_pos c1]
    have e2 : remS s b id = sheet0 := by unfold remS; rw [if_neg (by rw [e1]; decide)]
    rw [e1, e2]
    repeat' ((conv=>whnf);first|(exfalso; contradiction)|refine zc h1 ?_|refine zg ?_|refine zn ?_|refine zz (fun _=>?_) fun _=>?_|refine zr ?_)
    all_goals conv=>whnf
    all_goals first|exact ret_int rfl|exact ret_bool rfl|exact ret_lit rfl|exact zt|exact zu
  by_cases c2 : identC id /\ wideC b /\ onSheetC b.1 /\ onSheetC b.2
  rotate_left
  · have e1 : remE s b id = 2 := by unfold remE; rw [if_neg (fun h => h c1), if_pos c2]
    have e2 : remS s b id = sheet0 := by unfold remS; rw [if_neg (by rw [e1]; decide)]
    rw [e1, e2]
    repeat' ((conv=>whnf);first|(exfalso; contradiction)|(exfalso; exact c2 ⟨by assumption, by assumption, by assumption, by assumption⟩)|refine zc h1 ?_|refine zc h2 ?_|refine zc h3 ?_|refine zc h4 ?_|refine zc h5 ?_|refine zg ?_|refine zn ?_|refine zz (fun _=>?_) fun _=>?_|refine zr ?_)
    all_goals conv=>whnf
    all_goals first|exact ret_int rfl|exact ret_bool rfl|exact ret_lit rfl|exact zt|exact zu
  obtain ⟨c21, c22, c23, c24⟩ := c2
  by_cases c3 : InsideB s.shape (rectC b (0, 0))
  rotate_left
  · have e1 : remE s b id = 13 := by unfold remE; rw [if_neg (fun h => h c1), if_neg (fun h => h ⟨c21, c22, c23, c24⟩), if_pos c3]
    have e2 : remS s b id = sheet0 := by unfold remS; rw [if_neg (by rw [e1]; decide)]
    rw [e1, e2]
    repeat' ((conv=>whnf);first|(exfalso; contradiction)|refine zc h1 ?_|refine zc h2 ?_|refine zc h3 ?_|refine zc h4 ?_|refine zc h5 ?_|refine zc h6 ?_|refine zc h7 ?_|refine zg ?_|refine zi ?_|refine zn ?_|refine zz (fun _=>?_) fun _=>?_|refine zr ?_)
    all_goals conv=>whnf
    all_goals first|exact ret_int rfl|exact ret_bool rfl|exact ret_lit rfl|exact zt|exact zu
  have e1 : remE s b id = 0 := by unfold remE; rw [if_neg (fun h => h c1), if_neg (fun h => h ⟨c21, c22, c23, c24⟩), if_neg (fun h => h c3)]
  have e2 : remS s b id = ⟨id, s.grade, s.heat, s.grain, rectC b b.1, cutDefs b s.defects⟩ := by unfold remS; rw [if_pos e1]
  rw [e1, e2]
  have hl : (s.defects.map shV).length = s.defects.length := by simp
  generalize rectC b b.1 = r1 at *
  generalize rectC b (0, 0) = r0 at *
  repeat' ((conv=>whnf);first|(exfalso; contradiction)|refine zc h1 ?_|refine zc h2 ?_|refine zc h3 ?_|refine zc h4 ?_|refine zc h5 ?_|refine zc h6 ?_|refine zc h7 ?_|refine zc h8 ?_|refine zg ?_|refine zi ?_|refine zn ?_|refine zz (fun _=>?_) fun _=>?_)
  all_goals conv=>whnf
  refine loop_2 (A := List Sh) (B := List Sh) (fun D R => remSt s b id r1 (cutDefs b D) D.length) (fun D R => s.defects = D ++ R) (fun D R => R.length) [] s.defects ?_ rfl (fun D R hp => ?_)
  · show Le T _ (remSt s b id r1 [] 0)
    refine le_mk ?_ ?_ ?_ ?_
    all_goals repeat' (first | exact trivial | refine And.intro ?_ ?_ | with_reducible rfl | exact (fun h => by cases h) | exact Nat.le_refl _ | omega | exact rfl)
    all_goals (try rw [hl])
  have hXl := cutDefs_le b D
  have hdl := hs.2.1
  cases R with
  | nil =>
    have e : s.defects = D := by rw [hp]; simp
    have hlen : s.defects.length = D.length := by rw [e]
    rw [e]
    generalize cutDefs b D = X at *
    cases X with
    | nil =>
      repeat' ((conv=>whnf);first|(exfalso; omega)|refine zg ?_|refine zz (fun _=>?_) fun _=>?_|refine zr ?_)
      all_goals conv=>whnf
      all_goals first|exact ret_int rfl|exact ret_bool rfl|exact ret_lit rfl|exact zt|exact zu
    | cons x X =>
      repeat' ((conv=>whnf);first|(exfalso; omega)|refine zg ?_|refine zz (fun _=>?_) fun _=>?_|refine zr ?_)
      all_goals conv=>whnf
      all_goals first|exact ret_int rfl|exact ret_bool rfl|exact ret_lit rfl|exact zt|exact zu
  | cons d R =>
    have hlen := mid_len hp
    have hdm : d ∈ s.defects := by rw [hp]; simp
    have k1 := boxS_spec d (hs.2.2 d hdm)
    have k2 := common_spec (boxS d).1 b
    have k3 := rectC_spec (commonB (boxS d).1 b) b.1
    have hsn := cutDefs_snoc b D d
    have hlD : ((D ++ [d]).length : Int) = (D.length : Int) + 1 := by simp
    have hcd : cutDef b d = (open Classical in if wideC (commonB (boxS d).1 b) then [rectC (commonB (boxS d).1 b) b.1] else []) := rfl
    generalize cutDefs b D = X at *
    generalize commonB (boxS d).1 b = cb at *
    generalize rectC cb b.1 = rr at *
    by_cases hw : wideC cb
    · rw [if_pos hw] at hcd
      rw [hcd] at hsn
      cases X with
      | nil =>
        repeat' ((conv=>whnf);first|(exfalso; contradiction)|(exfalso; omega)|refine need_len (l := s.defects) (by omega) ?_|refine idx_mid (l := s.defects) (A := D) (x := d) (B := R) hp (by omega) ?_|refine zc k1 ?_|refine zc k2 ?_|refine zc k3 ?_|refine need_nil (of_decide_eq_true rfl) (one_cells rfl) (of_decide_eq_true rfl) ?_|refine zg ?_|refine zi ?_|refine za ?_|refine zv ?_|refine zz (fun _=>?_) fun _=>?_)
        all_goals conv=>whnf
        refine ⟨(D ++ [d], R), ?_, by rw [hp]; simp, by simp⟩
        show Le T _ (remSt s b id r1 (cutDefs b (D ++ [d])) (D ++ [d]).length)
        rw [hsn, hlD]
        show Le T _ (remSt s b id r1 [rr] _)
        exact zj
      | cons x X =>
        have hx1 : (x :: X).length = X.length + 1 := rfl
        repeat' ((conv=>whnf);first|(exfalso; contradiction)|(exfalso; omega)|refine need_len (l := s.defects) (by omega) ?_|refine idx_mid (l := s.defects) (A := D) (x := d) (B := R) hp (by omega) ?_|refine zc k1 ?_|refine zc k2 ?_|refine zc k3 ?_|refine need_app rfl (.inl rfl) rfl (of_decide_eq_true rfl) (one_cells rfl) (show ((x :: X).map shV).length + 1 <= 1000000000 by rw [List.length_map]; omega) ?_|refine zg ?_|refine zi ?_|refine za ?_|refine zv ?_|refine zz (fun _=>?_) fun _=>?_)
        all_goals conv=>whnf
        refine ⟨(D ++ [d], R), ?_, by rw [hp]; simp, by simp⟩
        show Le T _ (remSt s b id r1 (cutDefs b (D ++ [d])) (D ++ [d]).length)
        rw [hsn, hlD]
        show Le T _ (remSt s b id r1 (x :: (X ++ [rr])) _)
        unfold remSt
        simp only [List.length_append, List.length_singleton, List.map_cons, List.map_append, List.map_nil]
        exact zj
    · rw [if_neg hw] at hcd
      rw [hcd, List.append_nil] at hsn
      cases X with
      | nil =>
        repeat' ((conv=>whnf);first|(exfalso; contradiction)|(exfalso; omega)|refine need_len (l := s.defects) (by omega) ?_|refine idx_mid (l := s.defects) (A := D) (x := d) (B := R) hp (by omega) ?_|refine zc k1 ?_|refine zc k2 ?_|refine zg ?_|refine za ?_|refine zz (fun _=>?_) fun _=>?_)
        all_goals conv=>whnf
        refine ⟨(D ++ [d], R), ?_, by rw [hp]; simp, by simp⟩
        show Le T _ (remSt s b id r1 (cutDefs b (D ++ [d])) (D ++ [d]).length)
        rw [hsn, hlD]
        show Le T _ (remSt s b id r1 [] _)
        exact zj
      | cons x X =>
        have hx1 : (x :: X).length = X.length + 1 := rfl
        repeat' ((conv=>whnf);first|(exfalso; contradiction)|(exfalso; omega)|refine need_len (l := s.defects) (by omega) ?_|refine idx_mid (l := s.defects) (A := D) (x := d) (B := R) hp (by omega) ?_|refine zc k1 ?_|refine zc k2 ?_|refine zg ?_|refine za ?_|refine zz (fun _=>?_) fun _=>?_)
        all_goals conv=>whnf
        refine ⟨(D ++ [d], R), ?_, by rw [hp]; simp, by simp⟩
        show Le T _ (remSt s b id r1 (cutDefs b (D ++ [d])) (D ++ [d]).length)
        rw [hsn, hlD]
        show Le T _ (remSt s b id r1 (x :: X) _)
        exact zj
theorem size_emp {s : ByteArray} : s = emptyB ↔ s.size = 0 := size_zero.symm
def noSheetC (s : Sheet) : Prop := s.id = 0 /\ s.grade = emptyB /\ s.heat = emptyB /\ s.grain = 0 /\ s.shape.outer.length = 0 /\ s.shape.holes.length = 0 /\ s.defects.length = 0
theorem noSheet_spec (s : Sheet) (hs : sheetSized s) : Sp 74 [sheetV s] (DB (noSheetC s)) := by
  refine zsp Tryz.func74 ?_
  have hr : noSheetC s ↔ s.id = 0 /\ s.grade = emptyB /\ s.heat = emptyB /\ s.grain = 0 /\ s.shape.outer.length = 0 /\ s.shape.holes.length = 0 /\ s.defects.length = 0 := Iff.rfl
  generalize noSheetC s = P at *
  have l1 : (s.shape.outer.map vcV).length = s.shape.outer.length := by simp
  have l2 : (s.shape.holes.map rgV).length = s.shape.holes.length := by simp
  have l3 : (s.defects.map shV).length = s.defects.length := by simp
  repeat' ((conv=>whnf);first|refine br_eqS (fun heq => ?_) (fun heq => ?_)|refine zg ?_|refine zz (fun _=>?_) fun _=>?_|refine zr ?_)
  all_goals conv=>whnf
  all_goals first
    | exact ret_boolD (eq_dec ⟨fun h => hr.2 ⟨by omega, by assumption, by assumption, by omega, by omega, by omega, by omega⟩, fun h => by have := (hr.1 h).2.2.2.2.2.2; omega⟩)
    | exact ret_boolD (dec_retf (fun h => by have := (hr.1 h); omega))
    | exact ret_boolD (dec_retf (fun h => absurd (hr.1 h).2.1 (by assumption)))
    | exact ret_boolD (dec_retf (fun h => absurd (hr.1 h).2.2.1 (by assumption)))
def noBarC (b : Bar) : Prop := b.id = 0 /\ b.grade = emptyB /\ b.heat = emptyB /\ b.length = 0 /\ b.defects.length = 0
theorem noBar_spec (b : Bar) : Sp 75 [barV b] (DB (noBarC b)) := by
  refine zsp Tryz.func75 ?_
  have hr : noBarC b ↔ b.id = 0 /\ b.grade = emptyB /\ b.heat = emptyB /\ b.length = 0 /\ b.defects.length = 0 := Iff.rfl
  generalize noBarC b = P at *
  have l1 : (b.defects.map ivV).length = b.defects.length := by simp
  repeat' ((conv=>whnf);first|refine br_eqS (fun heq => ?_) (fun heq => ?_)|refine zg ?_|refine zz (fun _=>?_) fun _=>?_|refine zr ?_)
  all_goals conv=>whnf
  all_goals first
    | exact ret_boolD (eq_dec ⟨fun h => hr.2 ⟨by omega, by assumption, by assumption, by omega, by omega⟩, fun h => by have := (hr.1 h).2.2.2.2; omega⟩)
    | exact ret_boolD (dec_retf (fun h => by have := (hr.1 h); omega))
    | exact ret_boolD (dec_retf (fun h => absurd (hr.1 h).2.1 (by assumption)))
    | exact ret_boolD (dec_retf (fun h => absurd (hr.1 h).2.2.1 (by assumption)))
theorem lident_spec (n : Int) : Sp 152 [I n] (DB (identC n)) := by
  refine zsp Tryz.func152 ?_
  repeat' ((conv=>whnf);first|refine zg ?_|refine zz (fun _=>?_) fun _=>?_|refine zr ?_)
  all_goals conv=>whnf
  all_goals first
    | exact ret_boolD (le_dec ⟨fun h => ⟨by omega, by omega⟩, fun h => h.2⟩)
    | exact ret_boolD (dec_retf (fun h => by have := h.1; omega))
def classI (b : Bool) : Int := if b then 1 else 0
theorem classI_spec (b : Bool) : Sp 83 [B b] (I (classI b)) := by
  refine zsp Tryz.func83 ?_
  cases b
  · repeat' ((conv=>whnf);first|refine zg ?_|refine zr ?_)
    all_goals conv=>whnf
    all_goals first|exact ret_int rfl|exact ret_bool rfl|exact ret_lit rfl|exact zt|exact zu
  · repeat' ((conv=>whnf);first|refine zg ?_|refine zr ?_)
    all_goals conv=>whnf
    all_goals first|exact ret_int rfl|exact ret_bool rfl|exact ret_lit rfl|exact zt|exact zu
def sid (x : Stock) : Int := if x.isBar then x.bar.id else x.sheet.id
theorem sid_spec (x : Stock) : Sp 89 [stockV x] (I (sid x)) := by
  refine zsp Tryz.func89 ?_
  obtain ⟨b, s, br, p⟩ := x
  cases b
  · repeat' ((conv=>whnf);first|refine zg ?_|refine zr ?_)
    all_goals conv=>whnf
    all_goals first|exact ret_int rfl|exact ret_bool rfl|exact ret_lit rfl|exact zt|exact zu
  · repeat' ((conv=>whnf);first|refine zg ?_|refine zr ?_)
    all_goals conv=>whnf
    all_goals first|exact ret_int rfl|exact ret_bool rfl|exact ret_lit rfl|exact zt|exact zu
def stockSized (x : Stock) : Prop := sheetSized x.sheet /\ x.bar.defects.length <= 1000000
noncomputable def sizeK (x : Stock) : Int := if x.isBar then x.bar.length else area2S x.sheet.shape
theorem sizeK_spec (x : Stock) (hx : stockSized x) : Sp 37 [stockV x] (I (sizeK x)) := by
  refine zsp Tryz.func37 ?_
  have h1 := area2S_spec x.sheet.shape hx.1.1
  obtain ⟨b, s, br, p⟩ := x
  cases b
  · repeat' ((conv=>whnf);first|refine zc h1 ?_|refine zg ?_|refine zr ?_)
    all_goals conv=>whnf
    all_goals first|exact ret_int rfl|exact ret_bool rfl|exact ret_lit rfl|exact zt|exact zu
  · repeat' ((conv=>whnf);first|refine zg ?_|refine zr ?_)
    all_goals conv=>whnf
    all_goals first|exact ret_int rfl|exact ret_bool rfl|exact ret_lit rfl|exact zt|exact zu
end Go.Proofs.Led
