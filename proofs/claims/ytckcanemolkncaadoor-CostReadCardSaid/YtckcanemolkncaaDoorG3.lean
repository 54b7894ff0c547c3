/-
  append, slice expressions.
  Slice expressions; structs compared; every operation.
  Structs compared; every operation.
-/
import Derived.Test.YtckcanemolkncaaDoorG2
import Derived.Laws.BytesString
import Derived.Laws.Cells
set_option linter.unusedVariables false
set_option linter.unusedSimpArgs false
namespace Go.Ab
section
variable {T : Tab} {P : Program} {Φ : Fr} {σ : St} {a : Act} {w : World} {G : Gh} {K : VK} {o : Oper} {d : Nat}

/-- a slice value that can be read as a list -/
def Src (w : World) (G : Gh) (v : Value) (xs : List V) : Prop :=
  (v = .slice none 0 0 ∧ xs = []) ∨ ∃ ad c sz, v = .slice (some ad) xs.length c ∧ xs.length ≤ c ∧ c ≤ maxLen ∧ (∀ x ∈ xs, x.cells.length = sz) ∧ Here w G ad (xs.flatMap V.cells)

theorem Rv.src {v : Value} {l : List V} (h : Rv w G v (.sl l)) : Src w G v l := by
  rcases h.sl_inv with h | ⟨ad, c, sz, cc, h1, h2, h3, h4, h5, h6, h7⟩
  · exact .inl h
  · exact .inr ⟨ad, c, sz, h1, h2, h3, h5, ⟨cc, h6, h7⟩⟩

theorem conts_sound (inv : Inv T Φ σ a w G) (x : Operand) {K : List V → Prop} (h : conts σ (σ.ev x) K) : ∃ xs, K xs ∧ pureL xs ∧ Src w G (a.eval x) xs := by
  obtain ⟨h1, h2⟩ := inv.ev x
  unfold conts at h
  split at h
  · rename_i l hx
    rw [hx] at h1 h2
    simp only [V.ok] at h2
    exact ⟨l, h, h2, h1.src⟩
  · rename_i l hx
    rw [hx] at h1 h2
    simp only [V.ok] at h2
    exact ⟨l, h, h2, h1.cap_sl.src⟩
  · rename_i hx
    rw [hx] at h1
    exact ⟨[], h, by simp only [V.okL], .inl ⟨h1.lit_eq, rfl⟩⟩
  · rename_i k g hx
    rw [hx] at h1
    split at h
    · rename_i en hen
      obtain ⟨⟨hg, hd⟩, h3⟩ := need_p h
      subst hg
      refine ⟨en.l, h3, inv.wfA k en hen, ?_⟩
      have := (inv.arr k en hen).reads hd
      rw [h1.arr_eq]
      exact this
    · exact h.elim
  · exact h.elim

theorem Src.news {v : Value} {xs : List V} {z : Nat} (h : Src w G v xs) (hz : ∀ x ∈ xs, x.cells.length = z) : ∃ news : List Value, news.length = xs.length * z ∧ RvL w G news (xs.flatMap V.cells) ∧
    ((v = .slice none 0 0 ∧ xs = []) ∨ ∃ ad c, v = .slice (some ad) xs.length c ∧ ∀ j u, news[j]? = some u → w.cell? (ad.add j) = some u) := by
  rcases h with ⟨h1, h2⟩ | ⟨ad, c, sz, h1, h2, h3, h4, h5⟩
  · subst h2
    exact ⟨[], by simp, ⟨rfl, (fun _ h => by cases h), (fun _ _ _ h => by simp at h)⟩, .inl ⟨h1, rfl⟩⟩
  · obtain ⟨cc, q1, q2⟩ := h5.out
    have hl := flat_len hz
    refine ⟨(List.range (xs.flatMap V.cells).length).map cc, by rw [List.length_map, List.length_range, hl], ⟨by simp, ?_, ?_⟩, .inr ⟨ad, c, h1, ?_⟩⟩
    · intro u hu
      obtain ⟨j, hj, rfl⟩ := List.mem_map.1 hu
      rw [List.mem_range] at hj
      exact (q1 j _ (List.getElem?_eq_getElem hj)).2
    · intro i u y hu hy
      have hi := (List.getElem?_eq_some_iff.1 hy).1
      rw [List.getElem?_map, List.getElem?_range hi] at hu
      simp at hu
      subst hu
      exact q2 i y hy
    · intro j u hu
      rw [List.getElem?_map] at hu
      by_cases hj : j < (xs.flatMap V.cells).length
      · rw [List.getElem?_range hj] at hu
        simp at hu
        subst hu
        exact (q1 j _ (List.getElem?_eq_getElem hj)).1
      · rw [List.getElem?_eq_none (by rw [List.length_range]; omega)] at hu
        cases hu

theorem append_none_run (hT : TabOk T P) {t : TypeId} (ht : t < T.n t) (hkd : (T.row t).kd = .slice) (he : (T.row t).elem < T.n (T.row t).elem) (ty : TypeId) (b : Option Addr) (n c : Nat) (hn : n ≤ c) (v : Value) (hv : v = .slice none 0 0 ∨ ∃ ad c', v = .slice (some ad) 0 c') :
    (Builtin.append_ #[t, t] ty #[.slice b n c, v]).run P w = .ok (.slice b n c) w := by
  have hu := und_slice (hT t ht) hkd
  obtain ⟨i, h1, _⟩ := (hT _ he).info
  rcases hv with rfl | ⟨ad, c', rfl⟩
  · cases b <;> simp [Builtin.append_, und_run hu, sizeOf, typeInfo, h1, Builtin.lenOf, Builtin.firstCells, hn, storeCells]
  · cases b <;> simp [Builtin.append_, und_run hu, sizeOf, typeInfo, h1, Builtin.lenOf, Builtin.firstCells, hn, storeCells, loadCells, loadCellsFrom]

/-- what append makes of a slice in the call's own hands, and of one whose cap is its len: it is left as it is, written in place, or made anew -/
theorem append_out (hT : TabOk T P) (inv : Inv T Φ σ a w G) {t : TypeId} (ht : t < T.n t) (hkd : (T.row t).kd = .slice) (he : (T.row t).elem < T.n (T.row t).elem) (ty : TypeId) {k gen : Nat} (hno : ∀ g, σ.hasA k g → g < gen) {kd : AK} {u v : Value} {l xs : List V}
    (hpl : pureL l) (hpx : pureL xs) (hsrc : Src w G v xs) (hzl : ∀ x ∈ l, x.cells.length = (T.row (T.row t).elem).size) (hz : ∀ x ∈ xs, x.cells.length = (T.row (T.row t).elem).size) (hb : (l.length + xs.length) * (T.row (T.row t).elem).bytes ≤ 140737488355328) (hb2 : l.length + xs.length ≤ 140737488355328)
    (hu : (OwnOk T w G k u (T.row t).elem l ∧ (kd = .own ∨ kd = .ap)) ∨ (Rv w G u (.cap l) ∧ kd = .ap)) :
    ∃ u' w' G', (Builtin.append_ #[t, t] ty #[u, v]).run P w = .ok u' w' ∧ Inv T Φ (σ.apps [.a k ⟨gen, kd, (T.row t).elem, l ++ xs⟩]) a w' G' ∧ G'.av k gen = u' ∧ u'.oneCell' = true := by
  have hkk : kd = .own ∨ kd = .ap := by rcases hu with ⟨_, h⟩ | ⟨_, h⟩ <;> first | exact h | exact .inr h
  have hpa : pureL (l ++ xs) := okL_iff.2 fun x hx => by
    rcases List.mem_append.1 hx with hx | hx
    · exact okL_iff.1 hpl x hx
    · exact okL_iff.1 hpx x hx
  have hza : ∀ x ∈ l ++ xs, x.cells.length = (T.row (T.row t).elem).size := fun x hx => by
    rcases List.mem_append.1 hx with hx | hx
    · exact hzl x hx
    · exact hz x hx
  obtain ⟨news, n1, n2, n3⟩ := hsrc.news hz
  obtain ⟨i, i1, i2, i3, z, i4, i5, i6, i7, i8, i9⟩ := (hT _ he).info
  have hund := und_slice (hT t ht) hkd
  have hzs : z.cells.size = i.size := by
    have : z.cells.toList.length = i.size := by rw [i5, i7, i2]
    simpa using this
  -- left as it is
  have same : xs = [] → (Builtin.append_ #[t, t] ty #[u, v]).run P w = .ok u w → u.oneCell' = true → ArrOk T w G k ⟨gen, kd, (T.row t).elem, l⟩ ∨ True → ∃ u' w' G', (Builtin.append_ #[t, t] ty #[u, v]).run P w = .ok u' w' ∧ Inv T Φ (σ.apps [.a k ⟨gen, kd, (T.row t).elem, l ++ xs⟩]) a w' G' ∧ G'.av k gen = u' ∧ u'.oneCell' = true := by
    intro hxs hrun h1 _
    subst hxs
    refine ⟨u, w, { G with av := fun k' g => if k' = k ∧ g = gen then u else G.av k' g, O := G.O }, hrun, ?_, by simp, h1⟩
    have hkp : Keep w w G { G with av := fun k' g => if k' = k ∧ g = gen then u else G.av k' g, O := G.O } := ⟨fun _ h => h, fun _ _ => rfl⟩
    refine inv.setArr (w' := w) (k := k) (en := ⟨gen, kd, (T.row t).elem, l ++ []⟩) (fun g hg => Nat.le_of_lt (hno g hg)) (fun k' g hg => ?_) (by rw [List.append_nil]; exact hpl) ?_ (fun _ _ _ => rfl) (fun _ => .inl rfl) (fun _ _ _ => rfl) (Nat.le_refl _) rfl rfl rfl
    · have : ¬ (k' = k ∧ g = gen) := by rintro ⟨rfl, rfl⟩; exact absurd (hno g hg) (by omega)
      simp [this]
    · rw [List.append_nil]
      have hau : (fun k' g => if k' = k ∧ g = gen then u else G.av k' g) k gen = u := by simp
      unfold ArrOk
      rcases hu with ⟨h, rfl | rfl⟩ | ⟨h, rfl⟩
      · show _ ∧ OwnOk _ _ _ _ ((fun k' g => if k' = k ∧ g = gen then u else G.av k' g) k gen) _ _; rw [hau]; exact ⟨he, h.keep hkp hpl (fun b hb => ⟨hb, rfl⟩)⟩
      · show _ ∧ (OwnOk _ _ _ _ ((fun k' g => if k' = k ∧ g = gen then u else G.av k' g) k gen) _ _ ∨ _); rw [hau]; exact ⟨he, .inl (h.keep hkp hpl (fun b hb => ⟨hb, rfl⟩))⟩
      · refine ⟨he, .inr ⟨?_, hzl⟩⟩; show Rv _ _ ((fun k' g => if k' = k ∧ g = gen then u else G.av k' g) k gen) _; rw [hau]; exact h.pure_keep hkp (by simp only [V.pure, V.ok]; exact hpl)
  -- made anew
  have anew : ∀ (olds : List Value) (cap' : Nat), RvL w G olds (l.flatMap V.cells) → l.length + xs.length ≤ cap' → cap' ≤ maxLen →
      (Builtin.append_ #[t, t] ty #[u, v]).run P w = .ok (.slice (some ⟨w.heap.size, 0, none⟩) (l.length + xs.length) cap') (w.drew.alloc (.cells (olds.toArray ++ news.toArray ++ Builtin.zeroCells z.cells (cap' - (l.length + xs.length))) (T.row t).elem)) →
      ∃ u' w' G', (Builtin.append_ #[t, t] ty #[u, v]).run P w = .ok u' w' ∧ Inv T Φ (σ.apps [.a k ⟨gen, kd, (T.row t).elem, l ++ xs⟩]) a w' G' ∧ G'.av k gen = u' ∧ u'.oneCell' = true := by
    intro olds cap' ho hc1 hc2 hrun
    have hol : olds.length = l.length * (T.row (T.row t).elem).size := by rw [ho.len, flat_len hzl]
    have hboth : (olds ++ news).length = (l ++ xs).length * (T.row (T.row t).elem).size := by rw [List.length_append, hol, n1, List.length_append, Nat.add_mul]
    obtain ⟨G', inv', hav⟩ := inv.newArrG (n0 := w.drawn + 1) hno hkk he (cur := olds.toArray ++ news.toArray ++ Builtin.zeroCells z.cells (cap' - (l.length + xs.length))) (l := l ++ xs) (cap := cap') (by simpa using hc1) hc2
      (by simp only [Array.size_append, List.size_toArray, size_zeroCells, hzs, hol, n1, i2, ← Nat.add_mul]; congr 1; omega) hza hpa
      (by
        rw [← hboth, List.flatMap_append]
        have : (olds.toArray ++ news.toArray ++ Builtin.zeroCells z.cells (cap' - (l.length + xs.length))).toList = (olds ++ news) ++ (Builtin.zeroCells z.cells (cap' - (l.length + xs.length))).toList := by simp
        rw [this, List.take_left]
        exact ho.append n2)
    exact ⟨_, _, G', hrun, inv', by rw [hav]; simp, rfl⟩
  have h63 : ((l.length + xs.length : Nat) : Int) ≤ 9223372036854775807 := by omega
  have hfit : ∀ old, old < l.length + xs.length → Builtin.nextslicecap (l.length + xs.length) old * i.bytes ≤ 281474976710656 := fun old h => growslice_fits h (by rw [i3]; exact hb)
  have hgc : ∀ old, grownCap w (l.length + xs.length) old (T.row t).elem ≤ maxLen := fun old => grownCap_le_maxLen w _ _ _ (by unfold maxLen; omega)
  have empty : xs = [] → v = .slice none 0 0 ∨ ∃ ad c', v = .slice (some ad) 0 c' := by
    rintro rfl
    rcases n3 with ⟨h, _⟩ | ⟨ad, c, h, _⟩
    · exact .inl h
    · exact .inr ⟨ad, c, h⟩
  by_cases hx0 : xs = []
  · -- nothing is added
    rcases hu with ⟨hown, hk1⟩ | ⟨hcap, hk1⟩
    · rcases hown with ⟨rfl, rfl⟩ | ⟨b, cap, cur, rfl, h2, h3, h4, h5, h6, h7, h8⟩
      · exact same hx0 (append_none_run hT ht hkd he ty none 0 0 (Nat.le_refl _) v (empty hx0)) rfl (.inr trivial)
      · exact same hx0 (append_none_run hT ht hkd he ty _ _ _ h4 v (empty hx0)) rfl (.inr trivial)
    · rcases hcap.cap_inv with ⟨rfl, _⟩ | ⟨ad, sz, cc, rfl, _⟩
      · exact same hx0 (append_none_run hT ht hkd he ty none 0 0 (Nat.le_refl _) v (empty hx0)) rfl (.inr trivial)
      · exact same hx0 (append_none_run hT ht hkd he ty _ _ _ (Nat.le_refl _) v (empty hx0)) rfl (.inr trivial)
  · have hxl : 0 < xs.length := List.length_pos_iff.2 hx0
    obtain ⟨ad, c, rfl, hnews⟩ : ∃ ad c, v = .slice (some ad) xs.length c ∧ ∀ j u, news[j]? = some u → w.cell? (ad.add j) = some u := by
      rcases n3 with ⟨_, h⟩ | h
      · exact absurd h hx0
      · exact h
    have nilcase : u = .slice none 0 0 → l = [] → ∃ u' w' G', (Builtin.append_ #[t, t] ty #[u, .slice (some ad) xs.length c]).run P w = .ok u' w' ∧ Inv T Φ (σ.apps [.a k ⟨gen, kd, (T.row t).elem, l ++ xs⟩]) a w' G' ∧ G'.av k gen = u' ∧ u'.oneCell' = true := by
      rintro rfl rfl
      have hr := run_append_nil (P := P) w t ty (T.row t).elem i z hund i1 i4 ad xs.length c news (by rw [i2]; exact n1) hnews hxl (by omega) (by rw [i3]; simp at hb; omega)
      refine anew [] (grownCap w xs.length 0 (T.row t).elem) ⟨rfl, (fun _ h => by cases h), (fun _ _ _ h => by simp at h)⟩ (by simpa using grownCap_ge w xs.length 0 _) (by simpa using hgc 0) ?_
      rw [hr]
      simp
    have growcase : ∀ (b : Addr) (cap : Nat) (olds : List Value), u = .slice (some b) l.length cap → RvL w G olds (l.flatMap V.cells) → (∀ j v, olds[j]? = some v → w.cell? (b.add j) = some v) → cap < l.length + xs.length →
        ∃ u' w' G', (Builtin.append_ #[t, t] ty #[u, .slice (some ad) xs.length c]).run P w = .ok u' w' ∧ Inv T Φ (σ.apps [.a k ⟨gen, kd, (T.row t).elem, l ++ xs⟩]) a w' G' ∧ G'.av k gen = u' ∧ u'.oneCell' = true := by
      rintro b cap olds rfl ho hcell hlt
      have hr := run_append_grow (P := P) w t ty (T.row t).elem i z hund i1 i4 b l.length cap olds (by rw [ho.len, flat_len hzl, i2]) hcell ad xs.length c news (by rw [i2]; exact n1) hnews hlt h63 (hfit cap hlt)
      exact anew olds _ ho (grownCap_ge w _ _ _) (hgc cap) hr
    rcases hu with ⟨hown, hk1⟩ | ⟨hcap, hk1⟩
    · rcases hown with ⟨h1, h2⟩ | ⟨b, cap, cur, h1, h2, h3, h4, h5, h6, h7, h8⟩
      · exact nilcase h1 h2
      · have hcells : ∀ j v, (cur.toList.take (l.length * (T.row (T.row t).elem).size))[j]? = some v → w.cell? ((⟨b, 0, none⟩ : Addr).add j) = some v := by
          intro j v hv
          rw [add_lit', Nat.zero_add, cell_of_row w b j cur _ _ h3]
          rw [List.getElem?_take] at hv
          split at hv
          · simpa using hv
          · cases hv
        by_cases hroom : l.length + xs.length ≤ cap
        · -- in place
          subst h1
          have hfitc : l.length * i.size + news.length ≤ cur.size := by rw [n1, h6, i2, ← Nat.add_mul]; exact Nat.mul_le_mul_right _ hroom
          have hr := run_append_room (P := P) w t ty (T.row t).elem i hund i1 b l.length cap cur h3 ad xs.length c news (by rw [i2]; exact n1) hnews n2.one hroom hfitc
          rw [i2] at hr hfitc
          let cur' := (cur.toList.take (l.length * (T.row (T.row t).elem).size) ++ news ++ cur.toList.drop (l.length * (T.row (T.row t).elem).size + news.length)).toArray
          let w' := w.setRow b cur'
          let av' : Nat → Nat → Value := fun k' g => if k' = k ∧ g = gen then .slice (some ⟨b, 0, none⟩) (l.length + xs.length) cap else G.av k' g
          have hav : av' k gen = .slice (some ⟨b, 0, none⟩) (l.length + xs.length) cap := by simp [av']
          have hkp : Keep w w' G { G with av := av', O := G.O } := ⟨fun _ h => h, fun b' hb' => setRow_other w b b' _ (fun e => by subst e; rw [h2] at hb'; cases hb')⟩
          have hlt8 : (cur.toList.take (l.length * (T.row (T.row t).elem).size)).length = l.length * (T.row (T.row t).elem).size := by rw [h8.len, flat_len hzl]
          have hown' : OwnOk T w' { G with av := av', O := G.O } k (av' k gen) (T.row t).elem (l ++ xs) := by
            refine .inr ⟨b, cap, cur', by rw [hav]; simp, h2, setRow_heap w b cur cur' _ _ h3, by simpa using hroom, h5, ?_, hza, ?_⟩
            · show (cur.toList.take _ ++ news ++ cur.toList.drop _).toArray.size = _
              simp only [List.size_toArray, List.length_append, List.length_drop, Array.length_toList, hlt8]
              rw [← h6]; omega
            · have e1 : cur'.toList.take ((l ++ xs).length * (T.row (T.row t).elem).size) = cur.toList.take (l.length * (T.row (T.row t).elem).size) ++ news := by
                show (cur.toList.take _ ++ news ++ cur.toList.drop _).take _ = _
                have : ((l ++ xs).length * (T.row (T.row t).elem).size) = (cur.toList.take (l.length * (T.row (T.row t).elem).size) ++ news).length := by rw [List.length_append, List.length_append, hlt8, n1, Nat.add_mul]
                rw [this, List.take_left]
              rw [e1, List.flatMap_append]
              refine (h8.append n2).keep hkp (p := fun _ => False) (q := fun _ _ => False) ?_ (fun _ h => h.elim) (fun _ _ h => h.elim)
              rw [← List.flatMap_append]
              refine okL_iff.2 fun y hy => ?_
              obtain ⟨j, hj⟩ := List.getElem?_of_mem hy
              exact ok_of_mem_flat hpa hj
          refine ⟨_, w', { G with av := av', O := G.O }, hr, ?_, hav, rfl⟩
          refine inv.setArr (w' := w') (k := k) (en := ⟨gen, kd, (T.row t).elem, l ++ xs⟩) (av' := av') (O' := G.O) (fun g hg => Nat.le_of_lt (hno g hg)) (fun k' g hg => ?_) hpa ?_ (fun _ _ _ => rfl) (fun _ => .inl rfl)
            (fun b' _ hb' => setRow_other w b b' _ (fun e => by subst e; exact hb' h2)) (by rw [size_setRow]; exact Nat.le_refl _) rfl rfl rfl
          · have : ¬ (k' = k ∧ g = gen) := by rintro ⟨rfl, rfl⟩; exact absurd (hno g hg) (by omega)
            simp [av', this]
          · unfold ArrOk
            rcases hk1 with rfl | rfl
            · exact ⟨he, hown'⟩
            · exact ⟨he, .inl hown'⟩
        · exact growcase ⟨b, 0, none⟩ cap _ h1 h8 hcells (by omega)
    · rcases hcap.cap_inv with ⟨h1, h2⟩ | ⟨ad', sz, cc, h1, h2, h3, h4, h5, h6⟩
      · exact nilcase h1 h2
      · refine growcase ad' l.length ((List.range (l.flatMap V.cells).length).map cc) h1 ⟨by simp, ?_, ?_⟩ ?_ (by omega)
        · intro u hu
          obtain ⟨j, hj, rfl⟩ := List.mem_map.1 hu
          rw [List.mem_range] at hj
          exact (h5 j _ (List.getElem?_eq_getElem hj)).2
        · intro i u y hu hy
          have hi := (List.getElem?_eq_some_iff.1 hy).1
          rw [List.getElem?_map, List.getElem?_range hi] at hu
          simp at hu
          subst hu
          exact h6 i y hy
        · intro j u hu
          rw [List.getElem?_map] at hu
          by_cases hj : j < (l.flatMap V.cells).length
          · rw [List.getElem?_range hj] at hu
            simp at hu
            subst hu
            exact (h5 j _ (List.getElem?_eq_getElem hj)).1
          · rw [List.getElem?_eq_none (by rw [List.length_range]; omega)] at hu
            cases hu

theorem append_sound (hT : TabOk T P) (inv : Inv T Φ σ a w G) (t : TypeId) (s x : Operand) (ho : o.op = .call ⟨.builtin .append, ⟨[s, x]⟩, ⟨[t, t]⟩⟩) (ht : t < T.n t) (h : appendVC T (T.row t) σ d (σ.ev s) (σ.ev x) K) : Out T Φ σ a K ((execOp a.eval o).run P w) := by
  obtain ⟨s1, s2⟩ := inv.ev s
  have run : ∀ (u' : Value) (w' : World), (Builtin.append_ #[t, t] o.type #[a.eval s, a.eval x]).run P w = .ok u' w' → (execOp a.eval o).run P w = .ok (.value u') w' := by
    intro u' w' hr
    simp only [execOp, ho, resolve, invoke, builtin, Sem.run_bind, Sem.run_pure, Result.andThen_ok, List.map_toArray, List.map_cons, List.map_nil, hr]
  have fin : ∀ (k gen : Nat) (kd : AK) (l xs : List V), (∀ g, σ.hasA k g → g < gen) → pureL l → pureL xs → (T.row t).kd = .slice → (T.row t).elem < T.n (T.row t).elem → Src w G (a.eval x) xs → (∀ x ∈ l, x.cells.length = (T.row (T.row t).elem).size) → (∀ x ∈ xs, x.cells.length = (T.row (T.row t).elem).size) →
      (l.length + xs.length) * (T.row (T.row t).elem).bytes ≤ 140737488355328 → l.length + xs.length ≤ 140737488355328 → ((OwnOk T w G k (a.eval s) (T.row t).elem l ∧ (kd = .own ∨ kd = .ap)) ∨ (Rv w G (a.eval s) (.cap l) ∧ kd = .ap)) →
      K (.arr k gen) [.a k ⟨gen, kd, (T.row t).elem, l ++ xs⟩] → Out T Φ σ a K ((execOp a.eval o).run P w) := by
    intro k gen kd l xs hno hpl hpx hkd he hsrc hzl hz hb hb2 hu hk
    obtain ⟨u', w', G', hr, inv', hav, h1⟩ := append_out hT inv ht hkd he o.type hno hpl hpx hsrc hzl hz hb hb2 hu
    refine ⟨u', w', _, _, G', .inl (run u' w' hr), hk, inv', ?_, ?_⟩
    · subst hav; exact .arr k gen h1
    · simp only [V.ok]
      exact ⟨_, upd_same _ _ _, Nat.le_refl _⟩
  unfold appendVC at h
  split at h
  · rename_i hkd
    obtain ⟨hc, h2⟩ := cond_F h
    simp only [Bool.and_eq_true] at hc
    have he := blt hc.1
    obtain ⟨xs, h3, hpx, hsrc⟩ := conts_sound inv x h2
    split at h3
    · rename_i hs
      rw [hs] at s1
      split at h3
      · rename_i hd
        obtain ⟨⟨b1, b2, b3⟩, h4⟩ := need_p h3
        exact fin d 0 .own [] xs (no_arr hd 0) (by simp only [V.okL]) hpx hkd he hsrc (fun x hx => by cases hx) b3 (by simpa using b1) (by simpa using b2) (.inl ⟨.inl ⟨s1.lit_eq, rfl⟩, .inl rfl⟩) (by simpa using h4)
      · exact h3.elim
    · rename_i l hs
      rw [hs] at s1 s2
      split at h3
      · rename_i hd
        obtain ⟨⟨b1, b2, b3⟩, h4⟩ := need_p h3
        simp only [V.ok] at s2
        exact fin d 0 .ap l xs (no_arr hd 0) s2 hpx hkd he hsrc (fun x hx => b3 x (by simp [hx])) (fun x hx => b3 x (by simp [hx])) b1 b2 (.inr ⟨s1, rfl⟩) h4
      · exact h3.elim
    · rename_i k g hs
      rw [hs] at s1
      split at h3
      · rename_i en hen
        obtain ⟨⟨hg, hk1, hty, b1, b2, b3⟩, h4⟩ := need_p h3
        subst hg
        have hok := inv.arr k en hen
        have hno : ∀ g, σ.hasA k g → g < en.gen + 1 := fun g ⟨en', q1, q2⟩ => by rw [hen] at q1; cases q1; omega
        have hsv := s1.arr_eq
        unfold ArrOk at hok
        rw [hty] at hok
        have sizes : ∀ {u : Value}, OwnOk T w G k u (T.row t).elem en.l → ∀ x ∈ en.l, x.cells.length = (T.row (T.row t).elem).size := by
          intro u hown x hx
          rcases hown with ⟨_, h⟩ | ⟨b, cap, cur, _, _, _, _, _, _, h7, _⟩
          · rw [h] at hx; cases hx
          · exact h7 x hx
        rcases hk1 with hk1 | hk1
        · rw [hk1] at hok
          exact fin k (en.gen + 1) en.kind en.l xs hno (inv.wfA k en hen) hpx hkd he hsrc (sizes hok.2) b3 b1 b2 (.inl ⟨by rw [hsv]; exact hok.2, .inl hk1⟩) h4
        · rw [hk1] at hok
          rcases hok.2 with hok | hok
          · exact fin k (en.gen + 1) en.kind en.l xs hno (inv.wfA k en hen) hpx hkd he hsrc (sizes hok) b3 b1 b2 (.inl ⟨by rw [hsv]; exact hok, .inr hk1⟩) h4
          · exact fin k (en.gen + 1) en.kind en.l xs hno (inv.wfA k en hen) hpx hkd he hsrc hok.2 b3 b1 b2 (.inr ⟨by rw [hsv]; exact hok.1, hk1⟩) h4
      · exact h3.elim
    · exact h3.elim
  · exact h.elim

end
end Go.Ab
namespace Go.Ab
section
variable {T : Tab} {P : Program} {Φ : Fr} {σ : St} {a : Act} {w : World} {G : Gh} {K : VK} {o : Oper} {d : Nat}

theorem flat_sub {xs : List V} {sz : Nat} (hz : ∀ x ∈ xs, x.cells.length = sz) {l h : Nat} (j : Nat) {y : V} (hy : (((xs.take h).drop l).flatMap V.cells)[j]? = some y) : (xs.flatMap V.cells)[l * sz + j]? = some y := by
  have e1 : xs.take h = (xs.take h).take l ++ (xs.take h).drop l := (List.take_append_drop l _).symm
  have e2 : xs = xs.take h ++ xs.drop h := (List.take_append_drop h xs).symm
  by_cases hl : l ≤ (xs.take h).length
  · have hlen : (((xs.take h).take l).flatMap V.cells).length = l * sz := by
      rw [flat_len (sz := sz) (fun x hx => hz x (List.mem_of_mem_take (List.mem_of_mem_take hx))), List.length_take]
      congr 1; omega
    rw [e2, List.flatMap_append, e1, List.flatMap_append, List.append_assoc, List.getElem?_append_right (by omega), hlen, Nat.add_sub_cancel_left]
    rw [List.getElem?_append_left (List.getElem?_eq_some_iff.1 hy).1]
    exact hy
  · rw [List.drop_of_length_le (by omega)] at hy
    simp at hy

/-- the value of a bound -/
theorem bound_val (inv : Inv T Φ σ a w G) (x : Option Operand) (dflt : Int) {K : Int → Prop} (h : bound (x.map σ.ev) dflt K) : (x = none ∧ K dflt) ∨ ∃ y k n, x = some y ∧ a.eval y = .int k n ∧ K n := by
  unfold bound at h
  split at h
  · rename_i hx
    cases x with
    | none => exact .inl ⟨rfl, h⟩
    | some y => simp at hx
  · rename_i k n hx
    cases x with
    | none => simp at hx
    | some y =>
      simp at hx
      have := (inv.ev y).1
      rw [hx] at this
      exact .inr ⟨y, k, n, rfl, this.lit_eq, h⟩
  · exact h.elim

theorem sliceBound_run (k : IntKind) (n : Int) (y : Nat) (c : BoundsCode) (h0 : 0 ≤ n) (h1 : n ≤ y) : (Instr.sliceBound (.int k n) y c).run P w = .ok n.toNat w := by
  simp [Instr.sliceBound, asIntOf, h0, h1]

theorem bounds2_run (isS : Bool) (len cap : Nat) (lo hi : Option Value) (l hh : Int) (hl : (lo = none ∧ l = 0) ∨ ∃ k, lo = some (.int k l)) (hh2 : (hi = none ∧ hh = len) ∨ ∃ k, hi = some (.int k hh)) (h0 : 0 ≤ l) (h1 : l ≤ hh) (h2 : hh ≤ cap) :
    (Instr.sliceBounds isS len cap lo hi none).run P w = .ok (l.toNat, hh.toNat, cap) w := by
  rcases hl with ⟨rfl, rfl⟩ | ⟨k, rfl⟩
  · rcases hh2 with ⟨rfl, rfl⟩ | ⟨k', rfl⟩
    · simp [Instr.sliceBounds]
    · simp [Instr.sliceBounds, sliceBound_run k' hh cap _ (by omega) h2]
  · rcases hh2 with ⟨rfl, rfl⟩ | ⟨k', rfl⟩
    · simp [Instr.sliceBounds, sliceBound_run k l len _ h0 (by omega)]
    · simp [Instr.sliceBounds, sliceBound_run k' hh cap _ (by omega) h2, sliceBound_run k l hh.toNat _ h0 (by omega)]
theorem bounds3_run (isS : Bool) (len cap : Nat) (lo : Option Value) (l hh : Int) (k1 k2 : IntKind) (hl : (lo = none ∧ l = 0) ∨ ∃ k, lo = some (.int k l)) (h0 : 0 ≤ l) (h1 : l ≤ hh) (h2 : hh ≤ cap) :
    (Instr.sliceBounds isS len cap lo (some (.int k1 hh)) (some (.int k2 hh))).run P w = .ok (l.toNat, hh.toNat, hh.toNat) w := by
  rcases hl with ⟨rfl, rfl⟩ | ⟨k, rfl⟩
  · simp [Instr.sliceBounds, sliceBound_run k2 hh cap _ (by omega) h2, sliceBound_run k1 hh hh.toNat _ (by omega) (by omega)]
  · simp [Instr.sliceBounds, sliceBound_run k2 hh cap _ (by omega) h2, sliceBound_run k1 hh hh.toNat _ (by omega) (by omega), sliceBound_run k l hh.toNat _ h0 (by omega)]

theorem slice_sound (hT : TabOk T P) (inv : Inv T Φ σ a w G) (t : TypeId) (x : Operand) (lo hi mx : Option Operand) (ho : o.op = .slice t x lo hi mx) (ht : t < T.n t)
    (h : sliceVC T (T.row t) σ (σ.ev x) (lo.map σ.ev) (hi.map σ.ev) (mx.map σ.ev) K) : Out T Φ σ a K ((execOp a.eval o).run P w) := by
  obtain ⟨x1, x2⟩ := inv.ev x
  have opt : ∀ (z : Option Operand) (n dflt : Int), ((z = none ∧ n = dflt) ∨ ∃ y k, z = some y ∧ a.eval y = .int k n) → ((z.map a.eval = none ∧ n = dflt) ∨ ∃ k, z.map a.eval = some (.int k n)) := by
    rintro z n dflt (⟨rfl, rfl⟩ | ⟨y, k, rfl, hy⟩)
    · exact .inl ⟨rfl, rfl⟩
    · exact .inr ⟨k, by simp [hy]⟩
  unfold sliceVC at h
  split at h
  · rename_i s hkd hx
    rw [hx] at x1
    have hu := und_str (hT t ht) hkd
    split at h
    · rename_i hm
      have hmx : mx = none := by cases mx <;> simp_all
      subst hmx
      have fin : ∀ (l hh : Int), ((lo = none ∧ l = 0) ∨ ∃ y k, lo = some y ∧ a.eval y = .int k l) → ((hi = none ∧ hh = s.size) ∨ ∃ y k, hi = some y ∧ a.eval y = .int k hh) → need (0 ≤ l ∧ l ≤ hh ∧ hh ≤ s.size) (K (.lit (.string (s.extract l.toNat hh.toNat))) []) → Out T Φ σ a K ((execOp a.eval o).run P w) := by
        intro l hh hl hh2 hn
        obtain ⟨⟨q1, q2, q3⟩, hk⟩ := need_p hn
        have hb := bounds2_run (P := P) (w := w) false s.size s.size _ _ l hh (opt lo l 0 hl) (opt hi hh s.size hh2) q1 q2 q3
        refine .plain inv (v' := .string (s.extract l.toNat hh.toNat)) ?_ hk (.lit _ rfl) lit_triv
        simp only [execOp, ho, x1.lit_eq, Instr.sliceAt, Sem.run_bind, und_run hu, Result.andThen_ok, Instr.slice, Option.map_none, Option.isSome_none, Bool.false_eq_true, if_false, Sem.run_pure, hb]
      rcases bound_val inv lo 0 h with ⟨e1, h⟩ | ⟨y, k, n, e1, e2, h⟩
      · rcases bound_val inv hi _ h with ⟨f1, h⟩ | ⟨y', k', n', f1, f2, h⟩
        · exact fin 0 s.size (.inl ⟨e1, rfl⟩) (.inl ⟨f1, rfl⟩) h
        · exact fin 0 n' (.inl ⟨e1, rfl⟩) (.inr ⟨y', k', f1, f2⟩) h
      · rcases bound_val inv hi _ h with ⟨f1, h⟩ | ⟨y', k', n', f1, f2, h⟩
        · exact fin n s.size (.inr ⟨y, k, e1, e2⟩) (.inl ⟨f1, rfl⟩) h
        · exact fin n n' (.inr ⟨y, k, e1, e2⟩) (.inr ⟨y', k', f1, f2⟩) h
    · exact h.elim
  · rename_i hkd
    have hu := und_slice (hT t ht) hkd
    obtain ⟨hc, h⟩ := cond_F h
    have he := blt hc
    -- the source stays as it is
    obtain ⟨xs, h, hpx, hfz⟩ : ∃ xs, (bound (lo.map σ.ev) 0 fun l => bound (hi.map σ.ev) xs.length fun h => match mx.map σ.ev with
        | none => need (0 ≤ l ∧ l ≤ h ∧ h ≤ xs.length ∧ (l = 0 ∨ ∀ x ∈ xs, x.cells.length = (T.row (T.row t).elem).size)) (K (.sl ((xs.take h.toNat).drop l.toNat)) [])
        | some m => match hi.map σ.ev with
          | none => False
          | some _ => bound (some m) 0 fun m => need (0 ≤ l ∧ l ≤ h ∧ h ≤ xs.length ∧ m = h ∧ (l = 0 ∨ ∀ x ∈ xs, x.cells.length = (T.row (T.row t).elem).size)) (K (.cap ((xs.take h.toNat).drop l.toNat)) [])) ∧ pureL xs ∧ Rv w G (a.eval x) (.sl xs) := by
      unfold contsF at h
      split at h
      · rename_i l hx
        rw [hx] at x1 x2
        simp only [V.ok] at x2
        exact ⟨l, h, x2, x1⟩
      · rename_i l hx
        rw [hx] at x1 x2
        simp only [V.ok] at x2
        exact ⟨l, h, x2, x1.cap_sl⟩
      · rename_i hx
        rw [hx] at x1
        exact ⟨[], h, by simp only [V.okL], by rw [x1.lit_eq]; exact .slN⟩
      · rename_i k g hx
        split at h
        · rename_i en hen
          obtain ⟨⟨hg, hk⟩, h⟩ := need_p h
          rw [hx] at x1
          have hok := inv.arr k en hen
          unfold ArrOk at hok
          rw [hk] at hok
          exact ⟨en.l, h, inv.wfA k en hen, by rw [x1.arr_eq, ← hg]; exact hok⟩
        · exact h.elim
      · exact h.elim
    have hsub : ∀ l hh : Nat, pureL ((xs.take hh).drop l) := fun l hh => okL_iff.2 fun y hy => okL_iff.1 hpx y (List.mem_of_mem_take (List.mem_of_mem_drop hy))
    obtain ⟨b, len, cap, hv, hlen, hbase⟩ : ∃ b len cap, a.eval x = .slice b len cap ∧ len = xs.length ∧ ((b = none ∧ len = 0 ∧ cap = 0) ∨ ∃ ad sz cc, b = some ad ∧ len ≤ cap ∧ cap ≤ maxLen ∧ (0 < len → G.O ad.block = .fz) ∧ (∀ x ∈ xs, x.cells.length = sz) ∧ At w ad cc (xs.flatMap V.cells) ∧ ∀ (j : Nat) y, (xs.flatMap V.cells)[j]? = some y → Rv w G (cc j) y) := by
      rcases hfz.sl_inv with ⟨e1, e2⟩ | ⟨ad, c, sz, cc, e1, e2, e3, e4, e5, e6, e7⟩
      · exact ⟨none, 0, 0, e1, by rw [e2]; rfl, .inl ⟨rfl, rfl, rfl⟩⟩
      · exact ⟨some ad, _, c, e1, rfl, .inr ⟨ad, sz, cc, rfl, e2, e3, e4, e5, e6, e7⟩⟩
    have hlc : len ≤ cap := by rcases hbase with ⟨_, h1, h2⟩ | ⟨_, _, _, _, h, _⟩ <;> omega
    -- what the new header points at
    have newv : ∀ (l hh m : Nat), l ≤ hh → hh ≤ len → hh ≤ m → m ≤ cap → (l = 0 ∨ ∀ x ∈ xs, x.cells.length = (T.row (T.row t).elem).size) →
        Rv w G (.slice (if m = l then b else b.map (·.add (l * (T.row (T.row t).elem).size))) (hh - l) (m - l)) (.sl ((xs.take hh).drop l)) ∧
        (m = hh → Rv w G (.slice (if m = l then b else b.map (·.add (l * (T.row (T.row t).elem).size))) (hh - l) (m - l)) (.cap ((xs.take hh).drop l))) := by
      intro l hh m q1 q2 q3 q4 q5
      have hll : ((xs.take hh).drop l).length = hh - l := by rw [List.length_drop, List.length_take]; omega
      rcases hbase with ⟨rfl, e2, e3⟩ | ⟨ad, sz, cc, rfl, e2, e3, e4, e5, e6, e7⟩
      · have hm0 : m = l := by omega
        have h0 : hh - l = 0 := by omega
        have h1 : m - l = 0 := by omega
        have hnil : (xs.take hh).drop l = [] := List.eq_nil_of_length_eq_zero (by omega)
        rw [if_pos hm0, h0, h1, hnil]
        exact ⟨.slN, fun _ => .capN⟩
      · -- the address
        obtain ⟨ad', hb', hblk, hat⟩ : ∃ ad', (if m = l then some ad else (some ad).map (·.add (l * (T.row (T.row t).elem).size))) = some ad' ∧ ad'.block = ad.block ∧ (l < hh → ad' = ad.add (l * sz)) := by
          by_cases hml : m = l
          · rw [if_pos hml]; exact ⟨ad, rfl, rfl, fun h => by omega⟩
          · rw [if_neg hml]
            refine ⟨_, rfl, add_block _ _, fun hlt => ?_⟩
            rcases q5 with rfl | q5
            · simp
            · have hx0 : xs ≠ [] := by rintro rfl; simp at hlen; omega
              obtain ⟨y, ys, rfl⟩ := List.exists_cons_of_ne_nil hx0
              rw [← q5 y (by simp), e5 y (by simp)]
        rw [hb']
        have hcell : At w ad' (fun j => cc (l * sz + j)) (((xs.take hh).drop l).flatMap V.cells) := by
          intro j y hy
          have hlt : l < hh := by
            rcases Nat.lt_or_ge l hh with h | h
            · exact h
            · rw [List.eq_nil_of_length_eq_zero (by omega : ((xs.take hh).drop l).length = 0)] at hy; simp at hy
          rw [hat hlt, add_add']
          exact e6 _ y (flat_sub e5 j hy)
        have hrel : ∀ (j : Nat) y, (((xs.take hh).drop l).flatMap V.cells)[j]? = some y → Rv w G (cc (l * sz + j)) y := fun j y hy => e7 _ y (flat_sub e5 j hy)
        have hfz' : 0 < ((xs.take hh).drop l).length → G.O ad'.block = .fz := fun h => by rw [hblk]; exact e4 (by omega)
        have hz' : ∀ x ∈ (xs.take hh).drop l, x.cells.length = sz := fun x hx => e5 x (List.mem_of_mem_take (List.mem_of_mem_drop hx))
        constructor
        · have := Rv.slS (w := w) (G := G) ad' (m - l) ((xs.take hh).drop l) sz _ (by omega) (by omega) hfz' hz' hcell hrel
          rwa [hll] at this
        · intro hmh
          have := Rv.capS (w := w) (G := G) ad' ((xs.take hh).drop l) sz _ (by omega) hfz' hz' hcell hrel
          rw [hll] at this
          rw [hmh]; exact this
    -- the run
    have run : ∀ (l hh m : Nat), (Instr.sliceBounds true len cap (lo.map a.eval) (hi.map a.eval) (mx.map a.eval)).run P w = .ok (l, hh, m) w →
        (execOp a.eval o).run P w = .ok (.value (.slice (if m = l then b else b.map (·.add (l * (T.row (T.row t).elem).size))) (hh - l) (m - l))) w := by
      intro l hh m hb
      simp only [execOp, ho, hv, Instr.sliceAt, Sem.run_bind, und_run hu, Result.andThen_ok, Instr.slice, hb, size_run' hT he, Sem.run_pure]
    have fin : ∀ (l hh : Int), ((lo = none ∧ l = 0) ∨ ∃ y k, lo = some y ∧ a.eval y = .int k l) → ((hi = none ∧ hh = xs.length) ∨ ∃ y k, hi = some y ∧ a.eval y = .int k hh) →
        (match mx.map σ.ev with
        | none => need (0 ≤ l ∧ l ≤ hh ∧ hh ≤ xs.length ∧ (l = 0 ∨ ∀ x ∈ xs, x.cells.length = (T.row (T.row t).elem).size)) (K (.sl ((xs.take hh.toNat).drop l.toNat)) [])
        | some m => match hi.map σ.ev with
          | none => False
          | some _ => bound (some m) 0 fun m => need (0 ≤ l ∧ l ≤ hh ∧ hh ≤ xs.length ∧ m = hh ∧ (l = 0 ∨ ∀ x ∈ xs, x.cells.length = (T.row (T.row t).elem).size)) (K (.cap ((xs.take hh.toNat).drop l.toNat)) [])) → Out T Φ σ a K ((execOp a.eval o).run P w) := by
      intro l hh hl hh2 hn
      cases mx with
      | none =>
        simp only [Option.map_none] at hn
        obtain ⟨⟨q1, q2, q3, q4⟩, hk⟩ := need_p hn
        have hb := bounds2_run (P := P) (w := w) true len cap _ _ l hh (opt lo l 0 hl) (opt hi hh len (by rw [hlen]; exact hh2)) q1 q2 (by omega)
        have hnv := (newv l.toNat hh.toNat cap (by omega) (by omega) (by omega) (Nat.le_refl _) (q4.imp (fun h => by rw [h]; rfl) id)).1
        exact .plain inv (run _ _ _ hb) hk hnv (by simp only [V.ok]; exact hsub _ _)
      | some my =>
        rcases hh2 with ⟨rfl, _⟩ | ⟨yh, kh, rfl, hyh⟩
        · exact hn.elim
        simp only [Option.map_some] at hn
        rcases bound_val inv (some my) 0 (by simpa using hn) with ⟨e1, _⟩ | ⟨y', k', m, e1, e2, hn⟩
        · cases e1
        · cases e1
          obtain ⟨⟨q1, q2, q3, q5, q4⟩, hk⟩ := need_p hn
          subst q5
          have hb := bounds3_run (P := P) (w := w) true len cap (lo.map a.eval) l m kh k' (opt lo l 0 hl) q1 q2 (by omega)
          rw [← hyh, ← e2] at hb
          have hnv := (newv l.toNat m.toNat m.toNat (by omega) (by omega) (Nat.le_refl _) (by omega) (q4.imp (fun h => by rw [h]; rfl) id)).2 rfl
          exact .plain inv (run _ _ _ hb) hk hnv (by simp only [V.ok]; exact hsub _ _)
    rcases bound_val inv lo 0 h with ⟨e1, h⟩ | ⟨y, k, n, e1, e2, h⟩
    · rcases bound_val inv hi _ h with ⟨f1, h⟩ | ⟨y', k', n', f1, f2, h⟩
      · exact fin 0 xs.length (.inl ⟨e1, rfl⟩) (.inl ⟨f1, rfl⟩) h
      · exact fin 0 n' (.inl ⟨e1, rfl⟩) (.inr ⟨y', k', f1, f2⟩) h
    · rcases bound_val inv hi _ h with ⟨f1, h⟩ | ⟨y', k', n', f1, f2, h⟩
      · exact fin n xs.length (.inr ⟨y, k, e1, e2⟩) (.inl ⟨f1, rfl⟩) h
      · exact fin n n' (.inr ⟨y, k, e1, e2⟩) (.inr ⟨y', k', f1, f2⟩) h
  · exact h.elim

end
end Go.Ab
namespace Go.Ab
section
variable {T : Tab} {P : Program} {Φ : Fr} {σ : St} {a : Act} {w : World} {G : Gh} {K : VK} {o : Oper} {d : Nat}

theorem conv2_sound (hT : TabOk T P) (inv : Inv T Φ σ a w G) (s t : TypeId) (x : Operand) (ho : o.op = .convert s t x) (h : conv2VC T σ s t (σ.ev x) K) : Out T Φ σ a K ((execOp a.eval o).run P w) := by
  unfold conv2VC at h
  split at h
  · rename_i hkd
    obtain ⟨hc, h⟩ := cond_F h
    simp only [Bool.and_eq_true] at hc
    obtain ⟨⟨⟨⟨c1, c2⟩, c3⟩, c4⟩, c5⟩ := hc
    have k3 : (T.row t).kd = .str := by
      generalize (T.row t).kd = kd at c3
      cases kd <;> first | rfl | (simp [isStr] at c3)
    have k4 : (T.row (T.row s).elem).kd = .int .u8 := by
      generalize (T.row (T.row s).elem).kd = kd at c4
      cases kd with
      | int k => cases k <;> first | rfl | (simp [isU8] at c4)
      | _ => simp [isU8] at c4
    have u1 := und_slice (hT s (blt c1)) hkd
    have u2 := und_str (hT t (blt c2)) k3
    have u3 := und_int (hT _ (blt c5)) k4
    obtain ⟨xs, hk, hp, hsrc⟩ := conts_sound inv x h
    obtain ⟨ns, hxs, hk2⟩ := bytes_p hk
    subst hxs
    have flat : ∀ l : List Int, (l.map (fun n => V.lit (.int .u8 n))).flatMap V.cells = l.map (fun n => V.lit (.int .u8 n)) := by
      intro l
      induction l with
      | nil => rfl
      | cons n l ih => rw [List.map_cons, List.flatMap_cons, ih]; rfl
    have run : (convert s t (a.eval x)).run P w = .ok (.string (strOf ns)) w := by
      rcases hsrc with ⟨e1, e2⟩ | ⟨ad, c, sz, e1, _, _, _, hh⟩
      · have hn : ns = [] := by simpa using e2
        subst hn
        rw [e1, run_convert_bytes_string w s t _ none 0 0 u1 u3 u2]
        rfl
      · rw [e1, run_convert_bytes_string w s t _ (some ad) _ c u1 u3 u2]
        rw [flat] at hh
        obtain ⟨cc, hat, hrel⟩ := hh.out
        refine run_bytesToString w ad _ c ns ?_
        have hl := run_loadCells_list (P := P) (w := w) ad (ns.map (Value.int .u8)) (fun j v hv => ?_)
        · rw [List.length_map] at hl ⊢
          exact hl
        · rw [List.getElem?_map] at hv
          cases hn : ns[j]? with
          | none => rw [hn] at hv; cases hv
          | some n =>
            rw [hn] at hv
            cases hv
            have hy : (ns.map (fun n => V.lit (.int .u8 n)))[j]? = some (.lit (.int .u8 n)) := by rw [List.getElem?_map, hn]; rfl
            have h1 := (hat j _ hy).1
            have h2 : cc j = .int .u8 n := (hrel j _ hy).lit_eq
            rw [h1, h2]
    exact .plain inv (v' := .string (strOf ns)) (by simp only [execOp, ho, Sem.run_bind, run, Result.andThen_ok, Sem.run_pure]) hk2 (.lit _ rfl) lit_triv
  · exact conv_sound hT inv s t x ho h

theorem kdOf_int {u : Option TypeDesc} {k : IntKind} (h : kdOf u = .int k) : u = some (.int k) := by
  cases u with
  | none => simp [kdOf] at h
  | some dd => cases dd <;> simp [kdOf] at h; subst h; rfl
theorem kdOf_str {u : Option TypeDesc} (h : kdOf u = .str) : u = some .string := by
  cases u with
  | none => simp [kdOf] at h
  | some dd => cases dd <;> simp [kdOf] at h; rfl
theorem kdOf_bool {u : Option TypeDesc} (h : kdOf u = .bool) : u = some .bool := by
  cases u with
  | none => simp [kdOf] at h
  | some dd => cases dd <;> simp [kdOf] at h; rfl

theorem part_plain {t : TypeId} {dd : TypeDesc} (hu : P.underlying t = some dd) (ha : aggB (some dd) = false) (xs : Array Value) (off : Nat) {v : Value} (hv : xs[off]? = some v) : (part t xs off).run P w = .ok v w := by
  have : (isAgg t).run P w = .ok false w := by cases dd <;> simp_all [isAgg, und_run hu, aggB]
  simp [part, this, hv]

theorem lit_at {cs : Array Value} {xs : List V} (hl : cs.size = xs.length) (hr : ∀ (i : Nat) c x, cs[i]? = some c → xs[i]? = some x → Rv w G c x) {i : Nat} {u : Value} (h : nth xs i = some (.lit u)) : cs[i]? = some u := by
  rw [nth_eq] at h
  have hi : i < cs.size := by rw [hl]; exact (List.getElem?_eq_some_iff.1 h).1
  have := hr i cs[i] _ (by simp [hi]) h
  rw [← this.lit_eq]; simp [hi]

/-- the test of one field -/
def fieldEq (dp : Nat) (xs ys : Array Value) (f : Field) : Sem (ForInStep (Option Bool × Unit)) :=
  if f.name = "_" then pure (ForInStep.yield (none, ()))
  else do
    let u ← part f.type xs f.offset
    let v ← part f.type ys f.offset
    let b ← Op.equalIn dp f.type u v
    if b = false then pure (ForInStep.done (some false, ())) else pure (ForInStep.yield (none, ()))

theorem eqFlds_run (dp : Nat) {cs ds : Array Value} {xs ys : List V} (hl : cs.size = xs.length) (hr : ∀ (i : Nat) c x, cs[i]? = some c → xs[i]? = some x → Rv w G c x) (hl' : ds.size = ys.length) (hr' : ∀ (i : Nat) c x, ds[i]? = some c → ys[i]? = some x → Rv w G c x) :
    ∀ (l : List Field) (b : Bool), (∀ f ∈ l, f.name ≠ "_") → eqFlds (l.map (fun f => (f.offset, sizeB P f.type, kdOf (P.underlying f.type), f.type))) xs ys = some b →
      (forIn l ((none, ()) : Option Bool × Unit) fun f _ => fieldEq (dp + 1) cs ds f).run P w = .ok (if b then (none, ()) else (some false, ())) w := by
  intro l
  induction l with
  | nil =>
    intro b _ h
    have : b = true := by
      have h' : some true = some b := h
      simpa using h'.symm
    subst this
    simp
  | cons f r ih =>
    intro b hn h
    have hname := hn f (by simp)
    have h' : (match nth xs f.offset, nth ys f.offset, kdOf (P.underlying f.type) with
      | some (.lit (.int k a)), some (.lit (.int k' b)), .int _ => cond (decide (k = k')) ((eqFlds (r.map (fun f => (f.offset, sizeB P f.type, kdOf (P.underlying f.type), f.type))) xs ys).map (andB (eqB a b))) none
      | some (.lit (.string a)), some (.lit (.string b)), .str => (eqFlds (r.map (fun f => (f.offset, sizeB P f.type, kdOf (P.underlying f.type), f.type))) xs ys).map (andB (eqSB a b))
      | some (.lit (.bool a)), some (.lit (.bool b)), .bool => (eqFlds (r.map (fun f => (f.offset, sizeB P f.type, kdOf (P.underlying f.type), f.type))) xs ys).map (andB (eqBB a b))
      | _, _, _ => none) = some b := h
    have step : ∀ (u v : Value) (b1 : Bool) (dd : TypeDesc), P.underlying f.type = some dd → aggB (some dd) = false → cs[f.offset]? = some u → ds[f.offset]? = some v → (Op.equalIn (dp + 1) f.type u v).run P w = .ok b1 w →
        (eqFlds (r.map (fun f => (f.offset, sizeB P f.type, kdOf (P.underlying f.type), f.type))) xs ys).map (andB b1) = some b →
        (forIn (f :: r) ((none, ()) : Option Bool × Unit) fun f _ => fieldEq (dp + 1) cs ds f).run P w = .ok (if b then (none, ()) else (some false, ())) w := by
      intro u v b1 dd hu ha hcu hdv heq hrest
      cases hb2 : eqFlds (r.map (fun f => (f.offset, sizeB P f.type, kdOf (P.underlying f.type), f.type))) xs ys with
      | none => rw [hb2] at hrest; cases hrest
      | some b2 =>
        rw [hb2] at hrest
        have hb : b = (b1 && b2) := by simpa [andB] using hrest.symm
        have ih' := ih b2 (fun f hf => hn f (by simp [hf])) hb2
        simp only [List.forIn_cons, fieldEq, hname, if_false, Sem.run_bind, part_plain hu ha cs _ hcu, part_plain hu ha ds _ hdv, Result.andThen_ok, heq]
        cases b1 with
        | false => subst hb; simp
        | true =>
          subst hb
          simp only [Bool.true_eq_false, if_false, Sem.run_pure, Result.andThen_ok]
          exact ih'
    split at h'
    · rename_i k m k' n kk e1 e2 e3
      cases hkk : decide (k = k') with
      | false => rw [hkk] at h'; cases h'
      | true =>
        have : k = k' := by simpa using hkk
        subst this
        rw [hkk] at h'
        have hu := kdOf_int e3
        exact step _ _ (eqB m n) _ hu rfl (lit_at hl hr e1) (lit_at hl' hr' e2) (by simp [Op.equalIn, und_run hu, eqB]; exact Bool.eq_iff_iff.2 (by simp)) h'
    · rename_i m n e1 e2 e3
      have hu := kdOf_str e3
      exact step _ _ (eqSB m n) _ hu rfl (lit_at hl hr e1) (lit_at hl' hr' e2) (by simp [Op.equalIn, und_run hu, eqSB]) h'
    · rename_i m n e1 e2 e3
      have hu := kdOf_bool e3
      exact step _ _ (eqBB m n) _ hu rfl (lit_at hl hr e1) (lit_at hl' hr' e2) (by simp [Op.equalIn, und_run hu, eqBB]) h'
    · cases h'

theorem equal_struct (hT : TabOk T P) {t : TypeId} (ht : t < T.n t) (hkd : (T.row t).kd = .struct) (heq : (T.row t).eq = true) {cs ds : Array Value} {xs ys : List V} (hl : cs.size = xs.length) (hr : ∀ (i : Nat) c x, cs[i]? = some c → xs[i]? = some x → Rv w G c x) (hl' : ds.size = ys.length) (hr' : ∀ (i : Nat) c x, ds[i]? = some c → ys[i]? = some x → Rv w G c x)
    {b : Bool} (h : eqFlds (T.row t).flds xs ys = some b) : (Op.equal t (.agg cs) (.agg ds)).run P w = .ok b w := by
  obtain ⟨fs, u1, u2, u3⟩ := und_struct (hT t ht) hkd
  obtain ⟨q1, q2, q3⟩ := (hT t ht).eqs heq
  rw [u2] at h
  have hrun : ∀ dq dp, dp + 1 = dq → (Op.equalIn (dq + 1) t (.agg cs) (.agg ds)).run P w = .ok b w := by
    intro dq dp hdq
    have := eqFlds_run (P := P) dp hl hr hl' hr' fs.toList b (fun f hf => q3 fs u1 f (by simpa using hf)) h
    rw [hdq] at this
    simp only [Op.equalIn, Sem.run_bind, und_run u1, Result.andThen_ok]
    simp only [fieldEq] at this
    rw [Array.forIn_toList] at this
    simp [q1]
    rw [this]
    cases b <;> simp
  exact hrun 9999 9998 rfl

theorem agg_sound (hT : TabOk T P) (inv : Inv T Φ σ a w G) (x y : Operand) (op : BinOp) (t t' : TypeId) (ho : o.op = .binOp op t x y t') (ht : t < T.n t) (xs ys : List V) (hx : σ.ev x = .agg xs) (hy : σ.ev y = .agg ys) (h : aggVC op (T.row t) xs ys K) : Out T Φ σ a K ((execOp a.eval o).run P w) := by
  have x1 := (inv.ev x).1
  have y1 := (inv.ev y).1
  rw [hx] at x1
  rw [hy] at y1
  obtain ⟨cs, e1, e2, e3, e4⟩ := x1.agg_inv
  obtain ⟨ds, f1, f2, f3, f4⟩ := y1.agg_inv
  have hg : (T.row t).eq = true → (eqGuard op t x y (.agg cs) (.agg ds)).run P w = .ok () w := by
    intro heq
    obtain ⟨_, q2, _⟩ := (hT t ht).eqs heq
    cases op <;> simp [eqGuard, q2]
  unfold aggVC at h
  split at h
  · rename_i hkd
    obtain ⟨heq, h⟩ := need_p h
    split at h
    · rename_i b hb
      exact .plain inv (run_bin x y _ t t' ho _ _ (.bool b) e1 f1 (hg heq) (by simp [binOp, equal_struct hT ht hkd heq e2 e4 f2 f4 hb])) h (B_ok _ _ _) lit_triv
    · exact h.elim
  · rename_i hkd
    obtain ⟨heq, h⟩ := need_p h
    split at h
    · rename_i b hb
      exact .plain inv (run_bin x y _ t t' ho _ _ (.bool !b) e1 f1 (hg heq) (by simp [binOp, equal_struct hT ht hkd heq e2 e4 f2 f4 hb])) h (B_ok _ _ _) lit_triv
    · exact h.elim
  · exact h.elim

theorem bin_sound (hT : TabOk T P) (inv : Inv T Φ σ a w G) (x y : Operand) (op : BinOp) (t t' : TypeId) (ho : o.op = .binOp op t x y t') (h : binVC T op t (σ.ev x) (σ.ev y) K) : Out T Φ σ a K ((execOp a.eval o).run P w) := by
  have x1 := (inv.ev x).1
  have y1 := (inv.ev y).1
  unfold binVC at h
  split at h
  · rename_i k m k' n hx hy
    rw [hx] at x1
    rw [hy] at y1
    obtain ⟨hk, h2⟩ := cond_F h
    have : k = k' := by simpa using hk
    subst this
    exact int_sound inv x y op t t' ho k m n x1.lit_eq y1.lit_eq h2
  · rename_i m n hx hy
    rw [hx] at x1
    rw [hy] at y1
    exact str_sound inv x y op t t' ho m n x1.lit_eq y1.lit_eq h
  · rename_i m n hx hy
    rw [hx] at x1
    rw [hy] at y1
    obtain ⟨ht, h⟩ := cond_F h
    exact bool_sound hT inv x y op t t' ho m n x1.lit_eq y1.lit_eq (blt ht) h
  · rename_i xs ys hx hy
    obtain ⟨ht, h⟩ := cond_F h
    exact agg_sound hT inv x y op t t' ho (blt ht) xs ys hx hy h
  · exact h.elim

/-- EVERY OPERATION, calls of Go functions apart -/
theorem op_sound (hT : TabOk T P) (inv : Inv T Φ σ a w G) (o : Oper) (h : opVC T σ d o.op K) : Out T Φ σ a K ((execOp a.eval o).run P w) := by
  generalize ho : o.op = op at h
  unfold opVC at h
  split at h
  · exact move_sound inv _ ho h
  · exact assign_sound inv _ ho h
  · exact pick_sound inv _ _ _ ho h
  · exact un_sound inv _ _ _ ho h
  · exact bin_sound hT inv _ _ _ _ _ ho h
  · exact box_sound inv _ _ ho h
  · obtain ⟨ht, h⟩ := cond_F h; exact alloc_sound hT inv _ ho (blt ht) h
  · obtain ⟨ht, h⟩ := cond_F h; exact fieldAddr_sound hT inv _ _ _ ho (blt ht) h
  · obtain ⟨ht, h⟩ := cond_F h; exact field_sound hT inv _ _ _ ho (blt ht) h
  · obtain ⟨ht, h⟩ := cond_F h; exact load_sound hT inv _ _ ho (blt ht) h
  · obtain ⟨ht, h⟩ := cond_F h; exact store_sound hT inv _ _ _ ho (blt ht) h
  · obtain ⟨ht, h⟩ := cond_F h; exact indexAddr_sound hT inv _ _ _ ho (blt ht) h
  · obtain ⟨ht, h⟩ := cond_F h; exact index_sound hT inv _ _ _ ho (blt ht) h
  · exact extract_sound inv _ _ ho h
  · exact .plain inv (by simp [execOp, ho, Instr.makeFunc]) h (.fn _ #[] [] rfl (fun i c x hc => by simp at hc)) (by simp only [V.ok, V.okL])
  · obtain ⟨ht, h⟩ := cond_F h; exact build_sound hT inv _ _ ho (blt ht) h
  · obtain ⟨ht, h⟩ := cond_F h; exact buildSlice_sound hT inv _ _ _ ho (blt ht) h
  · obtain ⟨ht, h⟩ := cond_F h; exact makeSlice_sound hT inv _ _ _ ho (blt ht) h
  · obtain ⟨ht, h⟩ := cond_F h; exact slice_sound hT inv _ _ _ _ _ ho (blt ht) h
  · exact conv2_sound hT inv _ _ _ ho h
  · obtain ⟨ht, h⟩ := cond_F h
    split at h
    · rename_i hkd; exact len_sound hT inv _ _ ho (blt ht) hkd h
    · rename_i hkd; exact slen_sound hT inv _ _ ho (blt ht) hkd h
    · exact h.elim
  · obtain ⟨ht, h2⟩ := cond_F h
    simp only [Bool.and_eq_true, Nat.beq_eq] at ht
    obtain ⟨ht, rfl⟩ := ht
    exact append_sound hT inv _ _ _ ho (blt ht) h2
  · exact maxmin_sound inv .max maxI (.inl ⟨rfl, rfl⟩) _ _ ho h
  · exact maxmin_sound inv .min minI (.inr ⟨rfl, rfl⟩) _ _ ho h
  · exact h.elim

end
end Go.Ab
