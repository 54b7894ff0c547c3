/-
  A label is read by both ways as the piece that it was made of: the plain law.
  The given statements on labels and on reading, walked.
-/
import Derived.Test.YtckcanemolkncaaDoorA5
import Derived.Test.YtckcanemolkncaaDoorN3
set_option linter.unusedVariables false
set_option linter.unusedSimpArgs false
namespace Go.Proofs.Cost58
open Go Go.Proofs Go.Ab

/-! ### cutting -/
theorem index_at (c : UInt8) (sp R : List UInt8) : ∀ A : List UInt8, (∀ x ∈ A, x ≠ c) → Lib.index (A ++ ((c :: sp) ++ R)) (c :: sp) = A.length
  | [], _ => by
    show Lib.index (c :: (sp ++ R)) (c :: sp) = 0
    unfold Lib.index
    rw [if_pos (List.isPrefixOf_iff_prefix.2 ⟨R, by simp⟩)]
  | x :: A, h => by
    show Lib.index (x :: (A ++ ((c :: sp) ++ R))) (c :: sp) = _
    have ih := index_at c sp R A (fun y hy => h y (List.mem_cons_of_mem _ hy))
    have hx : (c :: sp).isPrefixOf (x :: (A ++ ((c :: sp) ++ R))) = false := by
      have : (c == x) = false := by simpa using (h x (List.mem_cons_self ..)).symm
      simp [List.isPrefixOf, this]
    unfold Lib.index
    rw [hx, ih]
    have : ((A.length : Int) == -1) = false := by simp
    rw [this]
    simp
theorem cut_at {A : List UInt8} (c : UInt8) (sp R : List UInt8) (h : ∀ x ∈ A, x ≠ c) : Lib.cut (A ++ ((c :: sp) ++ R)) (c :: sp) = (A, R, true) := by
  unfold Lib.cut
  rw [index_at c sp R A h, if_pos (by omega)]
  have e : ((A.length : Int)).toNat = A.length := by omega
  rw [e]
  have e1 : (A ++ ((c :: sp) ++ R)).take A.length = A := by simp
  have e2 : (A ++ ((c :: sp) ++ R)).drop (A.length + (c :: sp).length) = R := by
    rw [← List.append_assoc, show A.length + (c :: sp).length = (A ++ (c :: sp)).length by simp]
    simp
  rw [e1, e2]
theorem cutA_at {A R : List UInt8} (c : UInt8) (sp : List UInt8) (e : ByteArray) (he : e.data.toList = c :: sp) (h : ∀ x ∈ A, x ≠ c) : cutA (bA (A ++ ((c :: sp) ++ R))) e = bA A ∧ cutZ (bA (A ++ ((c :: sp) ++ R))) e = bA R := by
  unfold cutA cutZ
  rw [list_bA, he, cut_at c sp R h]
  exact ⟨rfl, rfl⟩

/-! ### numerals -/
theorem digit_toNat {d : Nat} (h : d < 10) : (UInt8.ofNat (48 + d)).toNat = 48 + d := by
  rw [UInt8.toNat_ofNat']; omega
theorem decDigits_digit (u : Nat) : ∀ x ∈ Lib.decDigits u, 48 ≤ x.toNat ∧ x.toNat ≤ 57 := by
  induction u using Nat.strongRecOn with
  | ind u ih =>
    intro x hx
    rw [Lib.decDigits] at hx
    split at hx
    · rename_i h
      cases List.mem_singleton.1 hx
      rw [digit_toNat h]; omega
    · rcases List.mem_append.1 hx with hx | hx
      · exact ih (u / 10) (by omega) x hx
      · cases List.mem_singleton.1 hx
        rw [digit_toNat (by omega)]; omega
theorem decDigits_len (u : Nat) : ∀ k, 1 ≤ k → u < 10 ^ k → (Lib.decDigits u).length ≤ k := by
  induction u using Nat.strongRecOn with
  | ind u ih =>
    intro k hk hu
    rw [Lib.decDigits]
    split
    · simpa using hk
    · rename_i h
      have hk2 : 2 ≤ k := by
        rcases Nat.lt_or_ge k 2 with h2 | h2
        · have : k = 1 := by omega
          subst this; omega
        · exact h2
      obtain ⟨j, rfl⟩ : ∃ j, k = j + 1 := ⟨k - 1, by omega⟩
      have := ih (u / 10) (by omega) j (by omega) (by rw [Nat.pow_succ] at hu; omega)
      simp; omega
theorem parse_append (a b : List UInt8) : ∀ acc v, Lib.parseUint10 acc a = .ok v → Lib.parseUint10 acc (a ++ b) = Lib.parseUint10 v b := by
  induction a with
  | nil => intro acc v h; simp only [Lib.parseUint10] at h; injection h with h; subst h; rfl
  | cons c r ih =>
    intro acc v h
    simp only [List.cons_append, Lib.parseUint10] at h ⊢
    split at h
    · rename_i hd
      rw [if_pos hd]
      split at h
      · cases h
      · rename_i h1
        rw [if_neg h1]
        split at h
        · cases h
        · rename_i h2
          rw [if_neg h2]
          exact ih _ _ h
    · cases h
theorem parse_digits (u : Nat) (hu : u < 1000000000000) : Lib.parseUint10 0 (Lib.decDigits u) = .ok u := by
  induction u using Nat.strongRecOn with
  | ind u ih =>
    rw [Lib.decDigits]
    split
    · rename_i h
      simp only [Lib.parseUint10, digit_toNat h]
      rw [if_pos (by omega), if_neg (by omega), if_neg (by omega)]
      congr 1; omega
    · rename_i h
      rw [parse_append _ _ 0 (u / 10) (ih (u / 10) (by omega) (by omega))]
      simp only [Lib.parseUint10, digit_toNat (show u % 10 < 10 by omega)]
      rw [if_pos (by omega), if_neg (by omega), if_neg (by omega)]
      congr 1; omega
theorem decDigits_ne (u : Nat) : Lib.decDigits u ≠ [] := by
  rw [Lib.decDigits]
  split <;> simp
theorem atoi_itoa (n : Int) (h0 : 0 ≤ n) (h1 : n < 1000000000000) : atoiV (Lib.itoa n) = n := by
  obtain ⟨u, rfl⟩ : ∃ u : Nat, n = u := ⟨n.toNat, by omega⟩
  have e : Lib.itoa (u : Int) = Lib.decDigits u := by unfold Lib.itoa; rw [if_neg (by omega)]; rfl
  rw [e]
  have hd := decDigits_digit u
  have hp := parse_digits u (by omega)
  have hne := decDigits_ne u
  generalize Lib.decDigits u = l at *
  cases l with
  | nil => exact (hne rfl).elim
  | cons c r =>
    have hc := hd c (by simp)
    unfold atoiV Lib.atoiAll
    have hm : Lib.parseMag (c :: r) = .ok u := by unfold Lib.parseMag; rw [if_neg (by simp)]; exact hp
    simp only
    rw [if_neg (by omega), hm]
    simp only
    rw [if_neg (by omega), if_neg (by omega), if_neg (by omega)]
theorem itoa_digits (n : Int) (h0 : 0 ≤ n) : ∀ x ∈ Lib.itoa n, 48 ≤ x.toNat ∧ x.toNat ≤ 57 := by
  unfold Lib.itoa
  rw [if_neg (by omega)]
  exact decDigits_digit _
theorem byteAt_bA (l : List UInt8) (j : Nat) (h : j < l.length) : byteAt (bA l) j = (l[j].toNat : Int) := by
  unfold byteAt bA
  have : (⟨l.toArray⟩ : ByteArray)[j]? = some l[j] := by
    rw [getElem?_pos (⟨l.toArray⟩ : ByteArray) j (by show j < l.toArray.size; simpa using h)]
    rfl
  rw [this]; rfl
theorem dvS_congr {s t : ByteArray} : ∀ k, (∀ j, j < k → byteAt s j = byteAt t j) → dvS s k = dvS t k
  | 0, _ => rfl
  | k + 1, h => by simp only [dvS]; rw [dvS_congr k (fun j hj => h j (by omega)), h k (by omega)]
theorem dvS_digits (u : Nat) : dvS (bA (Lib.decDigits u)) (Lib.decDigits u).length = u := by
  induction u using Nat.strongRecOn with
  | ind u ih =>
    rw [Lib.decDigits]
    split
    · rename_i h
      show dvS _ 1 = _
      simp only [dvS]
      rw [byteAt_bA _ 0 (by simp)]
      simp only [List.getElem_cons_zero, digit_toNat h]
      omega
    · rename_i h
      have ih' := ih (u / 10) (by omega)
      generalize hl : Lib.decDigits (u / 10) = l at *
      rw [List.length_append, List.length_singleton]
      simp only [dvS]
      rw [dvS_congr (t := bA l) l.length (fun j hj => by
        rw [byteAt_bA _ j (by simp; omega), byteAt_bA _ j hj, List.getElem_append_left hj]), ih', byteAt_bA _ l.length (by simp)]
      rw [List.getElem_append_right (Nat.le_refl _)]
      simp only [Nat.sub_self, List.getElem_cons_zero, digit_toNat (show u % 10 < 10 by omega)]
      omega
theorem num_itoa (n : Int) (h0 : 0 ≤ n) (h1 : n < 10000000000) : numR (bA (Lib.itoa n)) = n := by
  obtain ⟨u, rfl⟩ : ∃ u : Nat, n = u := ⟨n.toNat, by omega⟩
  have e : Lib.itoa (u : Int) = Lib.decDigits u := by unfold Lib.itoa; rw [if_neg (by omega)]; rfl
  rw [e]
  have hlen := decDigits_len u 10 (by omega) (by omega)
  have hd : digsS (bA (Lib.decDigits u)) (Lib.decDigits u).length := fun j hj => by
    rw [byteAt_bA _ j hj]
    have := decDigits_digit u _ (List.getElem_mem hj)
    omega
  unfold numR
  rw [bA_size, if_pos ⟨hlen, hd⟩]
  exact dvS_digits u

/-! ### names -/
theorem name_bytes {s : ByteArray} (h : isName s) : ∀ x ∈ s.data.toList, x ≠ 32 ∧ x ≠ 58 := by
  intro x hx
  obtain ⟨j, hj, he⟩ := List.getElem_of_mem hx
  have hj' : j < s.size := by rw [← size_list]; exact hj
  have hi := h.2.2.2 j hj'
  have hb : byteAt s j = (x.toNat : Int) := by
    have := byteAt_bA s.data.toList j hj
    rw [bA_list, he] at this
    exact this
  rw [hb] at hi
  unfold isInner isLetter isDigit at hi
  constructor
  · rintro rfl
    simp at hi
  · rintro rfl
    simp at hi
/-! ### the program's way -/
theorem what_bytes (p : Pc) : ∀ x ∈ (whatB p).data.toList, x ≠ 32 := by
  unfold whatB
  cases p.bar <;> decide
theorem digit_ne {l : List UInt8} (h : ∀ x ∈ l, 48 ≤ x.toNat ∧ x.toNat ≤ 57) : ∀ x ∈ l, x ≠ 32 ∧ x ≠ 58 := by
  intro x hx
  have := h x hx
  constructor
  · rintro rfl; simp at this
  · rintro rfl; simp at this
theorem eqS_what (p : Pc) : eqS (bA (whatB p).data.toList) lengthB = p.bar := by
  rw [bA_list]
  unfold whatB
  cases p.bar
  · exact eqS_f.2 (by decide)
  · exact eqS_t.2 rfl
theorem cand_label (p : Pc) (hl : labelled p) : candP (labelB p) = p := by
  obtain ⟨⟨h1, h1'⟩, ⟨h2, h2'⟩, h3, h4, h5, ⟨h6, h6'⟩, h7⟩ := id hl
  have d1 := digit_ne (itoa_digits p.id (by omega))
  have d2 := digit_ne (itoa_digits p.par (by omega))
  have d3 := digit_ne (itoa_digits p.size (by omega))
  rw [labelB_list]
  unfold labL
  have c1 := cutA_at (A := Lib.itoa p.id) 32 [102, 114, 111, 109, 32] fromS rfl (fun x hx => (d1 x hx).1) (R := Lib.itoa p.par ++ ([58, 32] ++ (p.part.data.toList ++ ([32] ++ (p.grade.data.toList ++ ([32] ++ (p.heat.data.toList ++ ([32] ++ ((whatB p).data.toList ++ ([32] ++ (Lib.itoa p.size ++ ([32] ++ (statB p).data.toList))))))))))))
  have c2 := cutA_at (A := Lib.itoa p.par) 58 [32] colonS rfl (fun x hx => (d2 x hx).2) (R := p.part.data.toList ++ ([32] ++ (p.grade.data.toList ++ ([32] ++ (p.heat.data.toList ++ ([32] ++ ((whatB p).data.toList ++ ([32] ++ (Lib.itoa p.size ++ ([32] ++ (statB p).data.toList))))))))))
  have c3 := cutA_at (A := p.part.data.toList) 32 [] spaceB rfl (fun x hx => (name_bytes h3 x hx).1) (R := p.grade.data.toList ++ ([32] ++ (p.heat.data.toList ++ ([32] ++ ((whatB p).data.toList ++ ([32] ++ (Lib.itoa p.size ++ ([32] ++ (statB p).data.toList))))))))
  have c4 := cutA_at (A := p.grade.data.toList) 32 [] spaceB rfl (fun x hx => (name_bytes h4 x hx).1) (R := p.heat.data.toList ++ ([32] ++ ((whatB p).data.toList ++ ([32] ++ (Lib.itoa p.size ++ ([32] ++ (statB p).data.toList))))))
  have c5 := cutA_at (A := p.heat.data.toList) 32 [] spaceB rfl (fun x hx => (name_bytes h5 x hx).1) (R := (whatB p).data.toList ++ ([32] ++ (Lib.itoa p.size ++ ([32] ++ (statB p).data.toList))))
  have c6 := cutA_at (A := (whatB p).data.toList) 32 [] spaceB rfl (what_bytes p) (R := Lib.itoa p.size ++ ([32] ++ (statB p).data.toList))
  have c7 := cutA_at (A := Lib.itoa p.size) 32 [] spaceB rfl (fun x hx => (d3 x hx).1) (R := (statB p).data.toList)
  unfold candP rs7 rs6 rs5 rs4 rs3 rs2 rs1
  rw [c1.1, c1.2, c2.1, c2.2, c3.1, c3.2, c4.1, c4.2, c5.1, c5.2, c6.1, c6.2, c7.1, c7.2]
  rw [list_bA, list_bA, list_bA, list_bA, atoi_itoa p.id (by omega) (by omega), atoi_itoa p.par (by omega) (by omega), atoi_itoa p.size (by omega) (by omega)]
  unfold candF
  rw [eqS_what, bA_list, bA_list, bA_list, bA_list]
  obtain ⟨id, par, part, grade, heat, size, bar, status, order⟩ := p
  simp only at h7 ⊢
  rcases h7 with ⟨h8 | h8, h9⟩ | ⟨h8, h9⟩
  · simp only at h8 h9
    subst h8 h9
    rw [if_neg (show ¬ Lib.hasPrefix (statB _).data.toList shippedB.data.toList = true by simp [statB]; decide), if_pos (eqS_t.2 (by simp [statB]))]
  · simp only at h8 h9
    subst h8 h9
    rw [if_neg (show ¬ Lib.hasPrefix (statB _).data.toList shippedB.data.toList = true by simp [statB]; decide), if_neg (ne_t (eqS_f.2 (by simp [statB]; decide)))]
  · simp only at h8
    subst h8
    have e : (statB ⟨id, par, part, grade, heat, size, bar, 3, order⟩).data.toList = shippedB.data.toList ++ order.data.toList := by
      unfold statB
      rw [if_neg (show ¬ (3 : Int) = 2 by omega), if_pos (show (3 : Int) = 3 from rfl), cat_list]
    rw [e]
    have hp : Lib.hasPrefix (shippedB.data.toList ++ order.data.toList) shippedB.data.toList = true := List.isPrefixOf_iff_prefix.2 ⟨_, rfl⟩
    rw [if_pos hp]
    unfold Lib.trimPrefix
    rw [if_pos hp, List.drop_left, bA_list]

/-! ### the reference's way -/
def stepW (W : List (List UInt8) × List UInt8) (c : UInt8) : List (List UInt8) × List UInt8 := if c = 32 then (W.1 ++ [W.2], []) else (W.1, W.2 ++ [c])
def bW (W : List (List UInt8) × List UInt8) : List ByteArray × ByteArray := (W.1.map bA, bA W.2)
theorem bA_app (a b : List UInt8) : bA (a ++ b) = bA a ++ bA b := by
  apply bytes_ext
  rw [cat_list, list_bA, list_bA, list_bA]
theorem extract_one (l : List UInt8) (k : Nat) (h : k < l.length) : (bA l).extract k (k + 1) = bA [l[k]] := by
  apply bytes_ext
  rw [list_bA]
  have e : ((bA l).extract k (k + 1)).data.toList = (l.take (k + 1)).drop k := by
    rw [ByteArray.data_extract]
    unfold bA
    simp [List.extract_eq_take_drop, List.drop_take]
  rw [e]
  rw [List.take_succ_eq_append_getElem h, List.drop_append_of_le_length (by simp; omega)]
  simp
theorem wordsP_fold (l : List UInt8) : ∀ k, k ≤ l.length → wordsP (bA l) k = bW ((l.take k).foldl stepW ([], []))
  | 0, _ => rfl
  | k + 1, h => by
    have ih := wordsP_fold l k (by omega)
    rw [List.take_succ_eq_append_getElem (by omega), List.foldl_append, List.foldl_cons, List.foldl_nil]
    unfold wordsP
    rw [ih, byteAt_bA l k (by omega), extract_one l k (by omega)]
    generalize (l.take k).foldl stepW ([], []) = W
    unfold stepW
    by_cases hc : l[k] = 32
    · rw [if_pos (by rw [hc]; rfl), if_pos hc]
      simp [bW]; rfl
    · rw [if_neg (fun h => hc (by
        have h' : l[k].toNat = 32 := by omega
        exact UInt8.toNat_inj.1 (by rw [h']; rfl))), if_neg hc]
      simp [bW, bA_app]
theorem fold_word {A : List UInt8} (h : ∀ x ∈ A, x ≠ 32) : ∀ W, A.foldl stepW W = (W.1, W.2 ++ A) := by
  induction A with
  | nil => intro W; simp
  | cons c r ih =>
    intro W
    rw [List.foldl_cons, ih (fun x hx => h x (List.mem_cons_of_mem _ hx))]
    unfold stepW
    rw [if_neg (h c (List.mem_cons_self ..))]
    simp
theorem fold_sep {A : List UInt8} (h : ∀ x ∈ A, x ≠ 32) (R : List UInt8) (I : List (List UInt8)) : (A ++ ([32] ++ R)).foldl stepW (I, []) = R.foldl stepW (I ++ [A], []) := by
  rw [List.foldl_append, fold_word h, List.foldl_append, List.foldl_cons, List.foldl_nil]
  unfold stepW
  simp
theorem wordsR_fold (l : List UInt8) : wordsR (bA l) = (bW (l.foldl stepW ([], []))).1 ++ [(bW (l.foldl stepW ([], []))).2] := by
  unfold wordsR
  rw [bA_size, wordsP_fold l l.length (Nat.le_refl _), List.take_length]
theorem rread_label (p : Pc) (hl : labelled p) : rreadR (labelB p) = finR p (labelB p) := by
  obtain ⟨⟨h1, h1'⟩, ⟨h2, h2'⟩, h3, h4, h5, ⟨h6, h6'⟩, h7⟩ := id hl
  have d1 := digit_ne (itoa_digits p.id (by omega))
  have d2 := digit_ne (itoa_digits p.par (by omega))
  have d3 := digit_ne (itoa_digits p.size (by omega))
  have e : labL p = Lib.itoa p.id ++ ([32] ++ ([102, 114, 111, 109] ++ ([32] ++ ((Lib.itoa p.par ++ [58]) ++ ([32] ++ (p.part.data.toList ++ ([32] ++ (p.grade.data.toList ++ ([32] ++ (p.heat.data.toList ++ ([32] ++ ((whatB p).data.toList ++ ([32] ++ (Lib.itoa p.size ++ ([32] ++ (statB p).data.toList))))))))))))))) := by
    unfold labL; simp
  have hfold : ∀ J, (J = (statB p).data.toList) → (labL p).foldl stepW ([], []) = J.foldl stepW ([Lib.itoa p.id, [102, 114, 111, 109], Lib.itoa p.par ++ [58], p.part.data.toList, p.grade.data.toList, p.heat.data.toList, (whatB p).data.toList, Lib.itoa p.size], []) := by
    rintro J rfl
    rw [e, fold_sep (fun x hx => (d1 x hx).1), fold_sep (by decide), fold_sep (fun x hx => by
      rcases List.mem_append.1 hx with hx | hx
      · exact (d2 x hx).1
      · cases List.mem_singleton.1 hx; decide), fold_sep (fun x hx => (name_bytes h3 x hx).1), fold_sep (fun x hx => (name_bytes h4 x hx).1), fold_sep (fun x hx => (name_bytes h5 x hx).1), fold_sep (what_bytes p), fold_sep (fun x hx => (d3 x hx).1)]
    rfl
  have hsz : ¬ (bA (Lib.itoa p.par ++ [58])).size = 0 := by rw [bA_size]; simp
  have hex : (bA (Lib.itoa p.par ++ [58])).extract 0 ((bA (Lib.itoa p.par ++ [58])).size - 1) = bA (Lib.itoa p.par) := by
    apply bytes_ext
    rw [list_bA, ByteArray.data_extract, bA_size]
    unfold bA
    simp
  have fin : ∀ (a8 : ByteArray) (R : List ByteArray), wordsR (labelB p) = bA (Lib.itoa p.id) :: bA [102, 114, 111, 109] :: bA (Lib.itoa p.par ++ [58]) :: bA p.part.data.toList :: bA p.grade.data.toList :: bA p.heat.data.toList :: bA (whatB p).data.toList :: bA (Lib.itoa p.size) :: a8 :: R →
      rcandF p.id p.par p.size p.part p.grade p.heat (bA (whatB p).data.toList) a8 (elev R) = p → rreadR (labelB p) = finR p (labelB p) := by
    intro a8 R hw hc
    unfold rreadR
    rw [hw]
    simp only
    rw [if_neg hsz, hex, num_itoa p.id (by omega) (by omega), num_itoa p.par (by omega) (by omega), num_itoa p.size (by omega) (by omega), bA_list p.part, bA_list p.grade, bA_list p.heat, hc]
  have hw : ∀ J W, J = (statB p).data.toList → J.foldl stepW ([Lib.itoa p.id, [102, 114, 111, 109], Lib.itoa p.par ++ [58], p.part.data.toList, p.grade.data.toList, p.heat.data.toList, (whatB p).data.toList, Lib.itoa p.size], []) = W → wordsR (labelB p) = (bW W).1 ++ [(bW W).2] := by
    intro J W hJ hW
    rw [labelB_list, wordsR_fold, hfold J hJ, hW]
  have hbar := eqS_what p
  rcases h7 with ⟨h8 | h8, h9⟩ | ⟨h8, h9⟩
  · have hst : statB p = goodB := by unfold statB; rw [h8]; rfl
    refine fin goodB [] (hw goodB.data.toList _ (by rw [hst]) (fold_word (by decide) _)) ?_
    unfold rcandF
    rw [if_pos (eqS_t.2 rfl), hbar]
    obtain ⟨id, par, part, grade, heat, size, bar, status, order⟩ := p
    simp only at h8 h9 ⊢
    subst h8 h9; rfl
  · have hst : statB p = rejectedB := by unfold statB; rw [h8]; rfl
    refine fin rejectedB [] (hw rejectedB.data.toList _ (by rw [hst]) (fold_word (by decide) _)) ?_
    unfold rcandF
    rw [if_neg (ne_t (eqS_f.2 (by decide))), if_pos (eqS_t.2 rfl), hbar]
    obtain ⟨id, par, part, grade, heat, size, bar, status, order⟩ := p
    simp only at h8 h9 ⊢
    subst h8 h9; rfl
  · have hst : (statB p).data.toList = shipW.data.toList ++ ([32] ++ ([116, 111] ++ ([32] ++ p.order.data.toList))) := by
      unfold statB
      rw [if_neg (by omega), if_pos h8, cat_list]; rfl
    refine fin shipW [bA [116, 111], p.order] ?_ ?_
    · have := hw (shipW.data.toList ++ ([32] ++ ([116, 111] ++ ([32] ++ p.order.data.toList)))) _ hst.symm (by
        rw [fold_sep (by decide), fold_sep (by decide), fold_word (fun x hx => (name_bytes h9 x hx).1)])
      rw [this]
      unfold bW
      simp [bA_list]
    · unfold rcandF
      rw [if_neg (ne_t (eqS_f.2 (by decide))), if_neg (ne_t (eqS_f.2 (by decide))), if_pos (eqS_t.2 rfl), hbar]
      obtain ⟨id, par, part, grade, heat, size, bar, status, order⟩ := p
      simp only at h8 ⊢
      subst h8; rfl

/-! ### both -/
theorem labelR_zero {q : Pc} : (labelR q).2 = 0 ↔ labelled q := by
  by_cases h : labelled q
  · rw [labelR_ok h]; simp [h]
  · rw [labelR_no h]; simp [h]
theorem finR_iff (q : Pc) (s : ByteArray) : (labelled q ∧ labelB q = s ∧ finR q s = (q, 0)) ∨ (¬ (labelled q ∧ labelB q = s) ∧ finR q s = (zeroPc, 3)) := by
  by_cases h : labelled q ∧ labelB q = s
  · refine .inl ⟨h.1, h.2, ?_⟩
    unfold finR
    rw [if_pos ⟨labelR_zero.2 h.1, eqS_t.2 (by rw [labelR_ok h.1]; exact h.2)⟩]
  · refine .inr ⟨h, ?_⟩
    unfold finR
    rw [if_neg]
    rintro ⟨h1, h2⟩
    have hl := labelR_zero.1 h1
    exact h ⟨hl, by have := eqS_t.1 h2; rw [labelR_ok hl] at this; exact this⟩
/-- WHAT IS READ: a labelled piece with this text for a label, or nothing -/
theorem read_cases (s : ByteArray) : (∃ p, labelled p ∧ labelB p = s ∧ readR s = (p, 0) ∧ rreadR s = (p, 0)) ∨ ((∀ p, labelled p → labelB p ≠ s) ∧ readR s = (zeroPc, 3) ∧ rreadR s = (zeroPc, 3)) := by
  by_cases hex : ∃ p, labelled p ∧ labelB p = s
  · obtain ⟨p, hl, rfl⟩ := hex
    have hf : finR p (labelB p) = (p, 0) := by
      rcases finR_iff p (labelB p) with h | h
      · exact h.2.2
      · exact (h.1 ⟨hl, rfl⟩).elim
    refine .inl ⟨p, hl, rfl, ?_, ?_⟩
    · unfold readR; rw [cand_label p hl]; exact hf
    · rw [rread_label p hl]; exact hf
  · have hno : ∀ p, labelled p → labelB p ≠ s := fun p h1 h2 => hex ⟨p, h1, h2⟩
    refine .inr ⟨hno, ?_, ?_⟩
    · unfold readR
      rcases finR_iff (candP s) s with h | h
      · exact (hno _ h.1 h.2.1).elim
      · exact h.2
    · unfold rreadR
      split
      · split
        · rfl
        · rcases finR_iff (rcandF _ _ _ _ _ _ _ _ _) s with h | h
          · exact (hno _ h.1 h.2.1).elim
          · exact h.2
      · rfl
end Go.Proofs.Cost58
namespace Go.Proofs.Cost58
open Go Go.Proofs Go.Ab
set_option maxRecDepth 100000

theorem eqSB_self (s : ByteArray) : eqSB s s = true := by
  unfold eqSB
  show (s.data == s.data) = true
  simp
theorem read_law (s : ByteArray) (p : Pc) (e g : Int) (t : ByteArray) (c30 : Sq 30 [S s] (.tup [pcV p, I e])) (c31 : Sq 31 [S s] (.tup [pcV p, I e])) (c28 : Sq 28 [pcV p] (.tup [S t, I g])) (hx : e = 0 → g = 0 ∧ t = s) (hs : s.size ≤ 200) : fnVC T2 Tryd.prog Tryd.f9 [S s] (.lit (.bool true)) := by
  repeat' ((conv => whnf); first
    | (refine call_i (sq_sp awake_spec) false ?_ rfl ?_; focus ((repeat' (first | exact trivial | refine And.intro ?_ ?_ | with_reducible rfl | exact (fun h => by cases h) | exact rfl)); done))
    | (exfalso; omega)
    | (refine call_i (c30) false ?_ rfl ?_; focus ((repeat' (first | exact trivial | refine And.intro ?_ ?_ | with_reducible rfl | exact (fun h => by cases h) | exact rfl)); done))
    | (refine call_i (c31) false ?_ rfl ?_; focus ((repeat' (first | exact trivial | refine And.intro ?_ ?_ | with_reducible rfl | exact (fun h => by cases h) | exact rfl)); done))
    | (refine call_i (c28) false ?_ rfl ?_; focus ((repeat' (first | exact trivial | refine And.intro ?_ ?_ | with_reducible rfl | exact (fun h => by cases h) | exact rfl)); done))
    | refine seq_go ?_
    | refine draw_i (by kernel_rfl) ?_
    | refine arith_half (by omega) ?_
    | refine arith_in (by omega) ?_
    | refine arith_u (by omega) ?_
    | refine need_i (p := (T.row _).eq = true) (by kernel_rfl) ?_
    | refine need_i (by omega) ?_
    | refine br_not ?_
    | refine br_dec (fun hd => ?_) (fun hd => ?_)
    | refine br_lt (fun hlt => ?_) (fun hlt => ?_)
    | refine br_le (fun hle => ?_) (fun hle => ?_)
    | refine br_eq (fun heq => ?_) (fun heq => ?_)
    | refine idx_map (by omega) (fun x hx => ?_)
    | refine live_i rfl (fun h => by cases h) ?_
    | refine branch_s (fun hbb => ?_) (fun hbb => ?_)
    | refine ret_i ?_
    | refine retB_i ?_)
  · conv => whnf
    exact ret_bool (eqS_t.2 (hx (by assumption)).2)
  · exact ret_bool rfl
  · exfalso
    simp only [andB_eq, eqB_t.2 rfl, eqSB_self, eqBB_eq, beq_self_eq_true, Bool.true_and, Bool.and_true] at hbb
    cases hbb
theorem read_long (s : ByteArray) (hs : ¬ s.size ≤ 200) : fnVC T2 Tryd.prog Tryd.f9 [S s] (.lit (.bool true)) := by
  repeat' ((conv => whnf); first
    | (refine call_i (sq_sp awake_spec) false ?_ rfl ?_; focus ((repeat' (first | exact trivial | refine And.intro ?_ ?_ | with_reducible rfl | exact (fun h => by cases h) | exact rfl)); done))
    | (exfalso; omega)
    | refine seq_go ?_
    | refine draw_i (by kernel_rfl) ?_
    | refine arith_half (by omega) ?_
    | refine arith_in (by omega) ?_
    | refine arith_u (by omega) ?_
    | refine need_i (p := (T.row _).eq = true) (by kernel_rfl) ?_
    | refine need_i (by omega) ?_
    | refine br_not ?_
    | refine br_dec (fun hd => ?_) (fun hd => ?_)
    | refine br_lt (fun hlt => ?_) (fun hlt => ?_)
    | refine br_le (fun hle => ?_) (fun hle => ?_)
    | refine br_eq (fun heq => ?_) (fun heq => ?_)
    | refine idx_map (by omega) (fun x hx => ?_)
    | refine live_i rfl (fun h => by cases h) ?_
    | refine branch_s (fun hbb => ?_) (fun hbb => ?_)
    | refine ret_i ?_
    | refine retB_i ?_)
  conv => whnf
  exact ret_bool rfl
theorem law_read_spec (s : ByteArray) : Sq 9 [S s] (.lit (.bool true)) := by
  refine sq_of Tryd.func9 (by kernel_rfl) (by kernel_rfl) ?_
  by_cases hs : s.size ≤ 200
  · have c30 := read_spec s (by omega)
    have c31 := sq_sp (rread_spec s (by omega))
    rcases read_cases s with ⟨p, hl, he, h1, h2⟩ | ⟨hno, h1, h2⟩
    · rw [h1] at c30; rw [h2] at c31
      exact read_law s p 0 _ _ c30 c31 (sq_sp (label_spec p)) (fun _ => by rw [labelR_ok hl]; exact ⟨rfl, he⟩) hs
    · rw [h1] at c30; rw [h2] at c31
      exact read_law s zeroPc 3 _ _ c30 c31 (sq_sp (label_spec zeroPc)) (fun h => absurd h (by decide)) hs
  · exact read_long s hs

theorem label_law (p : Pc) (s : ByteArray) (g : Int) (q : Pc) (e : Int) (c28 : Sq 28 [pcV p] (.tup [S s, I g])) (c29 : Sq 29 [pcV p] (.tup [S s, I g])) (c30 : Sq 30 [S s] (.tup [pcV q, I e])) (hx : (g = 0 ∧ e = 0 ∧ q = p) ∨ (g ≠ 0 ∧ e = 3)) (h1 : p.part.size ≤ 40) (h2 : p.grade.size ≤ 40) (h3 : p.heat.size ≤ 40) (h4 : p.order.size ≤ 40) : fnVC T2 Tryd.prog Tryd.f8 [pcV p] (.lit (.bool true)) := by
  repeat' ((conv => whnf); first
    | (refine call_i (sq_sp awake_spec) false ?_ rfl ?_; focus ((repeat' (first | exact trivial | refine And.intro ?_ ?_ | with_reducible rfl | exact (fun h => by cases h) | exact rfl)); done))
    | (exfalso; omega)
    | (refine call_i (c28) false ?_ rfl ?_; focus ((repeat' (first | exact trivial | refine And.intro ?_ ?_ | with_reducible rfl | exact (fun h => by cases h) | exact rfl)); done))
    | (refine call_i (c29) false ?_ rfl ?_; focus ((repeat' (first | exact trivial | refine And.intro ?_ ?_ | with_reducible rfl | exact (fun h => by cases h) | exact rfl)); done))
    | (refine call_i (c30) false ?_ rfl ?_; focus ((repeat' (first | exact trivial | refine And.intro ?_ ?_ | with_reducible rfl | exact (fun h => by cases h) | exact rfl)); done))
    | refine seq_go ?_
    | refine draw_i (by kernel_rfl) ?_
    | refine arith_half (by omega) ?_
    | refine arith_in (by omega) ?_
    | refine arith_u (by omega) ?_
    | refine need_i (p := (T.row _).eq = true) (by kernel_rfl) ?_
    | refine need_i (by omega) ?_
    | refine br_not ?_
    | refine br_dec (fun hd => ?_) (fun hd => ?_)
    | refine br_lt (fun hlt => ?_) (fun hlt => ?_)
    | refine br_le (fun hle => ?_) (fun hle => ?_)
    | refine br_eq (fun heq => ?_) (fun heq => ?_)
    | refine idx_map (by omega) (fun x hx => ?_)
    | refine live_i rfl (fun h => by cases h) ?_
    | refine branch_s (fun hbb => ?_) (fun hbb => ?_)
    | refine ret_i ?_
    | refine retB_i ?_)
  · rcases hx with ⟨_, _, rfl⟩ | ⟨h, _⟩
    · conv => whnf
      refine ret_bool ?_
      simp only [andB_eq, eqB_t.2 rfl, eqSB_self, eqBB_eq, beq_self_eq_true, Bool.true_and, Bool.and_true]
    · exact (h (by assumption)).elim
  · rcases hx with ⟨h, _⟩ | ⟨_, rfl⟩
    · exact absurd h (by assumption)
    · conv => whnf
      exact ret_bool (eqB_t.2 rfl)
  · exfalso
    rw [eqS_t.2 rfl] at hbb
    cases hbb
theorem label_long (p : Pc) (h : ¬ (p.part.size ≤ 40 ∧ p.grade.size ≤ 40 ∧ p.heat.size ≤ 40 ∧ p.order.size ≤ 40)) : fnVC T2 Tryd.prog Tryd.f8 [pcV p] (.lit (.bool true)) := by
  repeat' ((conv => whnf); first
    | (refine call_i (sq_sp awake_spec) false ?_ rfl ?_; focus ((repeat' (first | exact trivial | refine And.intro ?_ ?_ | with_reducible rfl | exact (fun h => by cases h) | exact rfl)); done))
    | (exfalso; omega)
    | refine seq_go ?_
    | refine draw_i (by kernel_rfl) ?_
    | refine arith_half (by omega) ?_
    | refine arith_in (by omega) ?_
    | refine arith_u (by omega) ?_
    | refine need_i (p := (T.row _).eq = true) (by kernel_rfl) ?_
    | refine need_i (by omega) ?_
    | refine br_not ?_
    | refine br_dec (fun hd => ?_) (fun hd => ?_)
    | refine br_lt (fun hlt => ?_) (fun hlt => ?_)
    | refine br_le (fun hle => ?_) (fun hle => ?_)
    | refine br_eq (fun heq => ?_) (fun heq => ?_)
    | refine idx_map (by omega) (fun x hx => ?_)
    | refine live_i rfl (fun h => by cases h) ?_
    | refine branch_s (fun hbb => ?_) (fun hbb => ?_)
    | refine ret_i ?_
    | refine retB_i ?_)
  all_goals (conv => whnf)
  all_goals exact ret_bool rfl
theorem labelB_ne (p : Pc) : labelB p ≠ emptyB := by
  intro h
  rw [labelB_list] at h
  have h2 := congrArg (fun s : ByteArray => s.data.toList) h
  simp only [list_bA] at h2
  have h3 : (32 : UInt8) ∈ labL p := by unfold labL; simp
  rw [h2] at h3
  revert h3
  decide
theorem what_len (p : Pc) : (whatB p).data.toList.length ≤ 30 := by
  unfold whatB
  cases p.bar
  · exact (by decide : areaB.data.toList.length ≤ 30)
  · exact (by decide : lengthB.data.toList.length ≤ 30)
theorem stat_len (p : Pc) (st : statusOk p) : (statB p).data.toList.length ≤ 60 := by
  unfold statB
  split
  · exact (by decide : rejectedB.data.toList.length ≤ 60)
  · split
    · unfold statusOk at st
      rcases st with ⟨h, _⟩ | ⟨_, h4⟩
      · rcases h with h | h <;> omega
      · have n4 := h4.2.1
        rw [cat_list, List.length_append, data_len p.order]
        have : shippedB.data.toList.length ≤ 30 := by decide
        omega
    · exact (by decide : goodB.data.toList.length ≤ 60)
theorem len_arith {a b c d e f g h k : Nat} (h1 : a ≤ 21) (h2 : b ≤ 21) (h3 : c ≤ 16) (h4 : d ≤ 16) (h5 : e ≤ 16) (h6 : f ≤ 30) (h7 : g ≤ 21) (h8 : h ≤ 60) : a + (6 + (b + (2 + (c + (1 + (d + (1 + (e + (1 + (f + (1 + (g + (1 + h))))))))))))) ≤ 1000 := by omega
theorem labelB_size (p : Pc) (hl : labelled p) : (labelB p).size ≤ 1000 := by
  rw [labelB_list]
  have e0 : (bA (labL p)).size = (labL p).length := lit_size _
  rw [e0]
  unfold labelled idOk at hl
  obtain ⟨⟨a1, a2⟩, ⟨b1, b2⟩, n1, n2, n3, ⟨s1, s2⟩, st⟩ := hl
  have e1 := Lib.itoa_length_le p.id (by omega) (by omega)
  have e2 := Lib.itoa_length_le p.par (by omega) (by omega)
  have e3 := Lib.itoa_length_le p.size (by omega) (by omega)
  have d1 := Nat.le_trans (Nat.le_of_eq (data_len p.part)) n1.2.1
  have d2 := Nat.le_trans (Nat.le_of_eq (data_len p.grade)) n2.2.1
  have d3 := Nat.le_trans (Nat.le_of_eq (data_len p.heat)) n3.2.1
  unfold labL
  rw [List.length_append, List.length_append, List.length_append, List.length_append, List.length_append, List.length_append, List.length_append, List.length_append, List.length_append, List.length_append, List.length_append, List.length_append, List.length_append, List.length_append]
  exact len_arith (k := 0) e1 e2 d1 d2 d3 (what_len p) e3 (stat_len p st)
theorem law_label_spec (p : Pc) : Sq 8 [pcV p] (.lit (.bool true)) := by
  refine sq_of Tryd.func8 (by kernel_rfl) (by kernel_rfl) ?_
  by_cases h : p.part.size ≤ 40 ∧ p.grade.size ≤ 40 ∧ p.heat.size ≤ 40 ∧ p.order.size ≤ 40
  · obtain ⟨h1, h2, h3, h4⟩ := h
    by_cases hl : labelled p
    · have hs : (labelB p).size ≤ 1000 := labelB_size p hl
      have c28 := sq_sp (label_spec p)
      have c29 := sq_sp (rlabel_spec p)
      have c30 := read_spec (labelB p) hs
      rw [labelR_ok hl] at c28 c29
      rcases read_cases (labelB p) with ⟨q, hq, he, h5, _⟩ | ⟨hno, _⟩
      · have e : q = p := by rw [← cand_label q hq, he, cand_label p hl]
        subst e
        rw [h5] at c30
        exact label_law q _ 0 q 0 c28 c29 c30 (.inl ⟨rfl, rfl, rfl⟩) h1 h2 h3 h4
      · exact (hno p hl rfl).elim
    · have c28 := sq_sp (label_spec p)
      have c29 := sq_sp (rlabel_spec p)
      have c30 := read_spec emptyB (by decide)
      rw [labelR_no hl] at c28 c29
      rcases read_cases emptyB with ⟨q, hq, he, h5, _⟩ | ⟨hno, h5, _⟩
      · exact (labelB_ne q he).elim
      · rw [h5] at c30
        exact label_law p _ 1 _ 3 c28 c29 c30 (.inr ⟨by decide, rfl⟩) h1 h2 h3 h4
  · exact label_long p h
end Go.Proofs.Cost58
