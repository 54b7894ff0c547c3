/-
  append, slice expressions.
-/
import Derived.Test.YtbmbfifobonfjaaAbOps5
set_option linter.unusedVariables false
set_option linter.unusedSimpArgs false
namespace Go.Ab
section
variable {T : Tab} {P : Program} {Φ : Fr} {σ : St} {a : Act} {w : World} {G : Gh} {K : VK} {o : Oper} {d : Nat}

/-- a slice value that can be read as a list -/
def Src (w : World) (G : Gh) (v : Value) (xs : List V) : Prop :=
  (v = .slice none 0 0 ∧ xs = []) ∨ ∃ ad c sz, v = .slice (some ad) xs.length c ∧ xs.length ≤ c ∧ c ≤ maxLen ∧ (∀ x ∈ xs, x.cells.length = sz) ∧ Here w G ad (xs.flatMap V.cells)

theorem Rv.src {v : Value} {l : List V} (h : Rv w G v (.sl l)) : Src w G v l := by
  rcases h.sl_inv with h | ⟨ad, c, sz, cc, h1, h2, h3, h4, h5, h6, h7⟩
  · exact .inl h
  · exact .inr ⟨ad, c, sz, h1, h2, h3, h5, ⟨cc, h6, h7⟩⟩

theorem conts_sound (inv : Inv T Φ σ a w G) (x : Operand) {K : List V → Prop} (h : conts σ (σ.ev x) K) : ∃ xs, K xs ∧ pureL xs ∧ Src w G (a.eval x) xs := by
  obtain ⟨h1, h2⟩ := inv.ev x
  unfold conts at h
  split at h
  · rename_i l hx
    rw [hx] at h1 h2
    simp only [V.ok] at h2
    exact ⟨l, h, h2, h1.src⟩
  · rename_i l hx
    rw [hx] at h1 h2
    simp only [V.ok] at h2
    exact ⟨l, h, h2, h1.cap_sl.src⟩
  · rename_i hx
    rw [hx] at h1
    exact ⟨[], h, by simp only [V.okL], .inl ⟨h1.lit_eq, rfl⟩⟩
  · rename_i k g hx
    rw [hx] at h1
    split at h
    · rename_i en hen
      obtain ⟨⟨hg, hd⟩, h3⟩ := need_p h
      subst hg
      refine ⟨en.l, h3, inv.wfA k en hen, ?_⟩
      have := (inv.arr k en hen).reads hd
      rw [h1.arr_eq]
      exact this
    · exact h.elim
  · exact h.elim

theorem Src.news {v : Value} {xs : List V} {z : Nat} (h : Src w G v xs) (hz : ∀ x ∈ xs, x.cells.length = z) : ∃ news : List Value, news.length = xs.length * z ∧ RvL w G news (xs.flatMap V.cells) ∧
    ((v = .slice none 0 0 ∧ xs = []) ∨ ∃ ad c, v = .slice (some ad) xs.length c ∧ ∀ j u, news[j]? = some u → w.cell? (ad.add j) = some u) := by
  rcases h with ⟨h1, h2⟩ | ⟨ad, c, sz, h1, h2, h3, h4, h5⟩
  · subst h2
    exact ⟨[], by simp, ⟨rfl, (fun _ h => by cases h), (fun _ _ _ h => by simp at h)⟩, .inl ⟨h1, rfl⟩⟩
  · obtain ⟨cc, q1, q2⟩ := h5.out
    have hl := flat_len hz
    refine ⟨(List.range (xs.flatMap V.cells).length).map cc, by rw [List.length_map, List.length_range, hl], ⟨by simp, ?_, ?_⟩, .inr ⟨ad, c, h1, ?_⟩⟩
    · intro u hu
      obtain ⟨j, hj, rfl⟩ := List.mem_map.1 hu
      rw [List.mem_range] at hj
      exact (q1 j _ (List.getElem?_eq_getElem hj)).2
    · intro i u y hu hy
      have hi := (List.getElem?_eq_some_iff.1 hy).1
      rw [List.getElem?_map, List.getElem?_range hi] at hu
      simp at hu
      subst hu
      exact q2 i y hy
    · intro j u hu
      rw [List.getElem?_map] at hu
      by_cases hj : j < (xs.flatMap V.cells).length
      · rw [List.getElem?_range hj] at hu
        simp at hu
        subst hu
        exact (q1 j _ (List.getElem?_eq_getElem hj)).1
      · rw [List.getElem?_eq_none (by rw [List.length_range]; omega)] at hu
        cases hu

theorem append_none_run (hT : TabOk T P) {t : TypeId} (ht : t < T.n t) (hkd : (T.row t).kd = .slice) (he : (T.row t).elem < T.n (T.row t).elem) (ty : TypeId) (b : Option Addr) (n c : Nat) (hn : n ≤ c) (v : Value) (hv : v = .slice none 0 0 ∨ ∃ ad c', v = .slice (some ad) 0 c') :
    (Builtin.append_ #[t, t] ty #[.slice b n c, v]).run P w = .ok (.slice b n c) w := by
  have hu := und_slice (hT t ht) hkd
  obtain ⟨i, h1, _⟩ := (hT _ he).info
  rcases hv with rfl | ⟨ad, c', rfl⟩
  · cases b <;> simp [Builtin.append_, und_run hu, sizeOf, typeInfo, h1, Builtin.lenOf, Builtin.firstCells, hn, storeCells]
  · cases b <;> simp [Builtin.append_, und_run hu, sizeOf, typeInfo, h1, Builtin.lenOf, Builtin.firstCells, hn, storeCells, loadCells, loadCellsFrom]

/-- what append makes of a slice in the call's own hands, and of one whose cap is its len: it is left as it is, written in place, or made anew -/
theorem append_out (hT : TabOk T P) (inv : Inv T Φ σ a w G) {t : TypeId} (ht : t < T.n t) (hkd : (T.row t).kd = .slice) (he : (T.row t).elem < T.n (T.row t).elem) (ty : TypeId) {k gen : Nat} (hno : ∀ g, σ.hasA k g → g < gen) {kd : AK} {u v : Value} {l xs : List V}
    (hpl : pureL l) (hpx : pureL xs) (hsrc : Src w G v xs) (hzl : ∀ x ∈ l, x.cells.length = (T.row (T.row t).elem).size) (hz : ∀ x ∈ xs, x.cells.length = (T.row (T.row t).elem).size) (hb : (l.length + xs.length) * (T.row (T.row t).elem).bytes ≤ 140737488355328) (hb2 : l.length + xs.length ≤ 140737488355328)
    (hu : (OwnOk T w G k u (T.row t).elem l ∧ (kd = .own ∨ kd = .ap)) ∨ (Rv w G u (.cap l) ∧ kd = .ap)) :
    ∃ u' w' G', (Builtin.append_ #[t, t] ty #[u, v]).run P w = .ok u' w' ∧ Inv T Φ (σ.apps [.a k ⟨gen, kd, (T.row t).elem, l ++ xs⟩]) a w' G' ∧ G'.av k gen = u' ∧ u'.oneCell' = true := by
  have hkk : kd = .own ∨ kd = .ap := by rcases hu with ⟨_, h⟩ | ⟨_, h⟩ <;> first | exact h | exact .inr h
  have hpa : pureL (l ++ xs) := okL_iff.2 fun x hx => by
    rcases List.mem_append.1 hx with hx | hx
    · exact okL_iff.1 hpl x hx
    · exact okL_iff.1 hpx x hx
  have hza : ∀ x ∈ l ++ xs, x.cells.length = (T.row (T.row t).elem).size := fun x hx => by
    rcases List.mem_append.1 hx with hx | hx
    · exact hzl x hx
    · exact hz x hx
  obtain ⟨news, n1, n2, n3⟩ := hsrc.news hz
  obtain ⟨i, i1, i2, i3, z, i4, i5, i6, i7, i8, i9⟩ := (hT _ he).info
  have hund := und_slice (hT t ht) hkd
  have hzs : z.cells.size = i.size := by
    have : z.cells.toList.length = i.size := by rw [i5, i7, i2]
    simpa using this
  -- left as it is
  have same : xs = [] → (Builtin.append_ #[t, t] ty #[u, v]).run P w = .ok u w → u.oneCell' = true → ArrOk T w G k ⟨gen, kd, (T.row t).elem, l⟩ ∨ True → ∃ u' w' G', (Builtin.append_ #[t, t] ty #[u, v]).run P w = .ok u' w' ∧ Inv T Φ (σ.apps [.a k ⟨gen, kd, (T.row t).elem, l ++ xs⟩]) a w' G' ∧ G'.av k gen = u' ∧ u'.oneCell' = true := by
    intro hxs hrun h1 _
    subst hxs
    refine ⟨u, w, { G with av := fun k' g => if k' = k ∧ g = gen then u else G.av k' g, O := G.O }, hrun, ?_, by simp, h1⟩
    have hkp : Keep w w G { G with av := fun k' g => if k' = k ∧ g = gen then u else G.av k' g, O := G.O } := ⟨fun _ h => h, fun _ _ => rfl⟩
    refine inv.setArr (w' := w) (k := k) (en := ⟨gen, kd, (T.row t).elem, l ++ []⟩) (fun g hg => Nat.le_of_lt (hno g hg)) (fun k' g hg => ?_) (by rw [List.append_nil]; exact hpl) ?_ (fun _ _ _ => rfl) (fun _ => .inl rfl) (fun _ _ _ => rfl) (Nat.le_refl _) rfl rfl rfl
    · have : ¬ (k' = k ∧ g = gen) := by rintro ⟨rfl, rfl⟩; exact absurd (hno g hg) (by omega)
      simp [this]
    · rw [List.append_nil]
      have hau : (fun k' g => if k' = k ∧ g = gen then u else G.av k' g) k gen = u := by simp
      unfold ArrOk
      rcases hu with ⟨h, rfl | rfl⟩ | ⟨h, rfl⟩
      · show _ ∧ OwnOk _ _ _ _ ((fun k' g => if k' = k ∧ g = gen then u else G.av k' g) k gen) _ _; rw [hau]; exact ⟨he, h.keep hkp hpl (fun b hb => ⟨hb, rfl⟩)⟩
      · show _ ∧ (OwnOk _ _ _ _ ((fun k' g => if k' = k ∧ g = gen then u else G.av k' g) k gen) _ _ ∨ _); rw [hau]; exact ⟨he, .inl (h.keep hkp hpl (fun b hb => ⟨hb, rfl⟩))⟩
      · refine ⟨he, .inr ⟨?_, hzl⟩⟩; show Rv _ _ ((fun k' g => if k' = k ∧ g = gen then u else G.av k' g) k gen) _; rw [hau]; exact h.pure_keep hkp (by simp only [V.pure, V.ok]; exact hpl)
  -- made anew
  have anew : ∀ (olds : List Value) (cap' : Nat), RvL w G olds (l.flatMap V.cells) → l.length + xs.length ≤ cap' → cap' ≤ maxLen →
      (Builtin.append_ #[t, t] ty #[u, v]).run P w = .ok (.slice (some ⟨w.heap.size, 0, none⟩) (l.length + xs.length) cap') (w.drew.alloc (.cells (olds.toArray ++ news.toArray ++ Builtin.zeroCells z.cells (cap' - (l.length + xs.length))) (T.row t).elem)) →
      ∃ u' w' G', (Builtin.append_ #[t, t] ty #[u, v]).run P w = .ok u' w' ∧ Inv T Φ (σ.apps [.a k ⟨gen, kd, (T.row t).elem, l ++ xs⟩]) a w' G' ∧ G'.av k gen = u' ∧ u'.oneCell' = true := by
    intro olds cap' ho hc1 hc2 hrun
    have hol : olds.length = l.length * (T.row (T.row t).elem).size := by rw [ho.len, flat_len hzl]
    have hboth : (olds ++ news).length = (l ++ xs).length * (T.row (T.row t).elem).size := by rw [List.length_append, hol, n1, List.length_append, Nat.add_mul]
    obtain ⟨G', inv', hav⟩ := inv.newArrG (n0 := w.drawn + 1) hno hkk he (cur := olds.toArray ++ news.toArray ++ Builtin.zeroCells z.cells (cap' - (l.length + xs.length))) (l := l ++ xs) (cap := cap') (by simpa using hc1) hc2
      (by simp only [Array.size_append, List.size_toArray, size_zeroCells, hzs, hol, n1, i2, ← Nat.add_mul]; congr 1; omega) hza hpa
      (by
        rw [← hboth, List.flatMap_append]
        have : (olds.toArray ++ news.toArray ++ Builtin.zeroCells z.cells (cap' - (l.length + xs.length))).toList = (olds ++ news) ++ (Builtin.zeroCells z.cells (cap' - (l.length + xs.length))).toList := by simp
        rw [this, List.take_left]
        exact ho.append n2)
    exact ⟨_, _, G', hrun, inv', by rw [hav]; simp, rfl⟩
  have h63 : ((l.length + xs.length : Nat) : Int) ≤ 9223372036854775807 := by omega
  have hfit : ∀ old, old < l.length + xs.length → Builtin.nextslicecap (l.length + xs.length) old * i.bytes ≤ 281474976710656 := fun old h => growslice_fits h (by rw [i3]; exact hb)
  have hgc : ∀ old, grownCap w (l.length + xs.length) old (T.row t).elem ≤ maxLen := fun old => grownCap_le_maxLen w _ _ _ (by unfold maxLen; omega)
  have empty : xs = [] → v = .slice none 0 0 ∨ ∃ ad c', v = .slice (some ad) 0 c' := by
    rintro rfl
    rcases n3 with ⟨h, _⟩ | ⟨ad, c, h, _⟩
    · exact .inl h
    · exact .inr ⟨ad, c, h⟩
  by_cases hx0 : xs = []
  · -- nothing is added
    rcases hu with ⟨hown, hk1⟩ | ⟨hcap, hk1⟩
    · rcases hown with ⟨rfl, rfl⟩ | ⟨b, cap, cur, rfl, h2, h3, h4, h5, h6, h7, h8⟩
      · exact same hx0 (append_none_run hT ht hkd he ty none 0 0 (Nat.le_refl _) v (empty hx0)) rfl (.inr trivial)
      · exact same hx0 (append_none_run hT ht hkd he ty _ _ _ h4 v (empty hx0)) rfl (.inr trivial)
    · rcases hcap.cap_inv with ⟨rfl, _⟩ | ⟨ad, sz, cc, rfl, _⟩
      · exact same hx0 (append_none_run hT ht hkd he ty none 0 0 (Nat.le_refl _) v (empty hx0)) rfl (.inr trivial)
      · exact same hx0 (append_none_run hT ht hkd he ty _ _ _ (Nat.le_refl _) v (empty hx0)) rfl (.inr trivial)
  · have hxl : 0 < xs.length := List.length_pos_iff.2 hx0
    obtain ⟨ad, c, rfl, hnews⟩ : ∃ ad c, v = .slice (some ad) xs.length c ∧ ∀ j u, news[j]? = some u → w.cell? (ad.add j) = some u := by
      rcases n3 with ⟨_, h⟩ | h
      · exact absurd h hx0
      · exact h
    have nilcase : u = .slice none 0 0 → l = [] → ∃ u' w' G', (Builtin.append_ #[t, t] ty #[u, .slice (some ad) xs.length c]).run P w = .ok u' w' ∧ Inv T Φ (σ.apps [.a k ⟨gen, kd, (T.row t).elem, l ++ xs⟩]) a w' G' ∧ G'.av k gen = u' ∧ u'.oneCell' = true := by
      rintro rfl rfl
      have hr := run_append_nil (P := P) w t ty (T.row t).elem i z hund i1 i4 ad xs.length c news (by rw [i2]; exact n1) hnews hxl (by omega) (by rw [i3]; simp at hb; omega)
      refine anew [] (grownCap w xs.length 0 (T.row t).elem) ⟨rfl, (fun _ h => by cases h), (fun _ _ _ h => by simp at h)⟩ (by simpa using grownCap_ge w xs.length 0 _) (by simpa using hgc 0) ?_
      rw [hr]
      simp
    have growcase : ∀ (b : Addr) (cap : Nat) (olds : List Value), u = .slice (some b) l.length cap → RvL w G olds (l.flatMap V.cells) → (∀ j v, olds[j]? = some v → w.cell? (b.add j) = some v) → cap < l.length + xs.length →
        ∃ u' w' G', (Builtin.append_ #[t, t] ty #[u, .slice (some ad) xs.length c]).run P w = .ok u' w' ∧ Inv T Φ (σ.apps [.a k ⟨gen, kd, (T.row t).elem, l ++ xs⟩]) a w' G' ∧ G'.av k gen = u' ∧ u'.oneCell' = true := by
      rintro b cap olds rfl ho hcell hlt
      have hr := run_append_grow (P := P) w t ty (T.row t).elem i z hund i1 i4 b l.length cap olds (by rw [ho.len, flat_len hzl, i2]) hcell ad xs.length c news (by rw [i2]; exact n1) hnews hlt h63 (hfit cap hlt)
      exact anew olds _ ho (grownCap_ge w _ _ _) (hgc cap) hr
    rcases hu with ⟨hown, hk1⟩ | ⟨hcap, hk1⟩
    · rcases hown with ⟨h1, h2⟩ | ⟨b, cap, cur, h1, h2, h3, h4, h5, h6, h7, h8⟩
      · exact nilcase h1 h2
      · have hcells : ∀ j v, (cur.toList.take (l.length * (T.row (T.row t).elem).size))[j]? = some v → w.cell? ((⟨b, 0, none⟩ : Addr).add j) = some v := by
          intro j v hv
          rw [add_lit', Nat.zero_add, cell_of_row w b j cur _ _ h3]
          rw [List.getElem?_take] at hv
          split at hv
          · simpa using hv
          · cases hv
        by_cases hroom : l.length + xs.length ≤ cap
        · -- in place
          subst h1
          have hfitc : l.length * i.size + news.length ≤ cur.size := by rw [n1, h6, i2, ← Nat.add_mul]; exact Nat.mul_le_mul_right _ hroom
          have hr := run_append_room (P := P) w t ty (T.row t).elem i hund i1 b l.length cap cur h3 ad xs.length c news (by rw [i2]; exact n1) hnews n2.one hroom hfitc
          rw [i2] at hr hfitc
          let cur' := (cur.toList.take (l.length * (T.row (T.row t).elem).size) ++ news ++ cur.toList.drop (l.length * (T.row (T.row t).elem).size + news.length)).toArray
          let w' := w.setRow b cur'
          let av' : Nat → Nat → Value := fun k' g => if k' = k ∧ g = gen then .slice (some ⟨b, 0, none⟩) (l.length + xs.length) cap else G.av k' g
          have hav : av' k gen = .slice (some ⟨b, 0, none⟩) (l.length + xs.length) cap := by simp [av']
          have hkp : Keep w w' G { G with av := av', O := G.O } := ⟨fun _ h => h, fun b' hb' => setRow_other w b b' _ (fun e => by subst e; rw [h2] at hb'; cases hb')⟩
          have hlt8 : (cur.toList.take (l.length * (T.row (T.row t).elem).size)).length = l.length * (T.row (T.row t).elem).size := by rw [h8.len, flat_len hzl]
          have hown' : OwnOk T w' { G with av := av', O := G.O } k (av' k gen) (T.row t).elem (l ++ xs) := by
            refine .inr ⟨b, cap, cur', by rw [hav]; simp, h2, setRow_heap w b cur cur' _ _ h3, by simpa using hroom, h5, ?_, hza, ?_⟩
            · show (cur.toList.take _ ++ news ++ cur.toList.drop _).toArray.size = _
              simp only [List.size_toArray, List.length_append, List.length_drop, Array.length_toList, hlt8]
              rw [← h6]; omega
            · have e1 : cur'.toList.take ((l ++ xs).length * (T.row (T.row t).elem).size) = cur.toList.take (l.length * (T.row (T.row t).elem).size) ++ news := by
                show (cur.toList.take _ ++ news ++ cur.toList.drop _).take _ = _
                have : ((l ++ xs).length * (T.row (T.row t).elem).size) = (cur.toList.take (l.length * (T.row (T.row t).elem).size) ++ news).length := by rw [List.length_append, List.length_append, hlt8, n1, Nat.add_mul]
                rw [this, List.take_left]
              rw [e1, List.flatMap_append]
              refine (h8.append n2).keep hkp (p := fun _ => False) (q := fun _ _ => False) ?_ (fun _ h => h.elim) (fun _ _ h => h.elim)
              rw [← List.flatMap_append]
              refine okL_iff.2 fun y hy => ?_
              obtain ⟨j, hj⟩ := List.getElem?_of_mem hy
              exact ok_of_mem_flat hpa hj
          refine ⟨_, w', { G with av := av', O := G.O }, hr, ?_, hav, rfl⟩
          refine inv.setArr (w' := w') (k := k) (en := ⟨gen, kd, (T.row t).elem, l ++ xs⟩) (av' := av') (O' := G.O) (fun g hg => Nat.le_of_lt (hno g hg)) (fun k' g hg => ?_) hpa ?_ (fun _ _ _ => rfl) (fun _ => .inl rfl)
            (fun b' _ hb' => setRow_other w b b' _ (fun e => by subst e; exact hb' h2)) (by rw [size_setRow]; exact Nat.le_refl _) rfl rfl rfl
          · have : ¬ (k' = k ∧ g = gen) := by rintro ⟨rfl, rfl⟩; exact absurd (hno g hg) (by omega)
            simp [av', this]
          · unfold ArrOk
            rcases hk1 with rfl | rfl
            · exact ⟨he, hown'⟩
            · exact ⟨he, .inl hown'⟩
        · exact growcase ⟨b, 0, none⟩ cap _ h1 h8 hcells (by omega)
    · rcases hcap.cap_inv with ⟨h1, h2⟩ | ⟨ad', sz, cc, h1, h2, h3, h4, h5, h6⟩
      · exact nilcase h1 h2
      · refine growcase ad' l.length ((List.range (l.flatMap V.cells).length).map cc) h1 ⟨by simp, ?_, ?_⟩ ?_ (by omega)
        · intro u hu
          obtain ⟨j, hj, rfl⟩ := List.mem_map.1 hu
          rw [List.mem_range] at hj
          exact (h5 j _ (List.getElem?_eq_getElem hj)).2
        · intro i u y hu hy
          have hi := (List.getElem?_eq_some_iff.1 hy).1
          rw [List.getElem?_map, List.getElem?_range hi] at hu
          simp at hu
          subst hu
          exact h6 i y hy
        · intro j u hu
          rw [List.getElem?_map] at hu
          by_cases hj : j < (l.flatMap V.cells).length
          · rw [List.getElem?_range hj] at hu
            simp at hu
            subst hu
            exact (h5 j _ (List.getElem?_eq_getElem hj)).1
          · rw [List.getElem?_eq_none (by rw [List.length_range]; omega)] at hu
            cases hu

theorem append_sound (hT : TabOk T P) (inv : Inv T Φ σ a w G) (t : TypeId) (s x : Operand) (ho : o.op = .call ⟨.builtin .append, ⟨[s, x]⟩, ⟨[t, t]⟩⟩) (ht : t < T.n t) (h : appendVC T (T.row t) σ d (σ.ev s) (σ.ev x) K) : Out T Φ σ a K ((execOp a.eval o).run P w) := by
  obtain ⟨s1, s2⟩ := inv.ev s
  have run : ∀ (u' : Value) (w' : World), (Builtin.append_ #[t, t] o.type #[a.eval s, a.eval x]).run P w = .ok u' w' → (execOp a.eval o).run P w = .ok (.value u') w' := by
    intro u' w' hr
    simp only [execOp, ho, resolve, invoke, builtin, Sem.run_bind, Sem.run_pure, Result.andThen_ok, List.map_toArray, List.map_cons, List.map_nil, hr]
  have fin : ∀ (k gen : Nat) (kd : AK) (l xs : List V), (∀ g, σ.hasA k g → g < gen) → pureL l → pureL xs → (T.row t).kd = .slice → (T.row t).elem < T.n (T.row t).elem → Src w G (a.eval x) xs → (∀ x ∈ l, x.cells.length = (T.row (T.row t).elem).size) → (∀ x ∈ xs, x.cells.length = (T.row (T.row t).elem).size) →
      (l.length + xs.length) * (T.row (T.row t).elem).bytes ≤ 140737488355328 → l.length + xs.length ≤ 140737488355328 → ((OwnOk T w G k (a.eval s) (T.row t).elem l ∧ (kd = .own ∨ kd = .ap)) ∨ (Rv w G (a.eval s) (.cap l) ∧ kd = .ap)) →
      K (.arr k gen) [.a k ⟨gen, kd, (T.row t).elem, l ++ xs⟩] → Out T Φ σ a K ((execOp a.eval o).run P w) := by
    intro k gen kd l xs hno hpl hpx hkd he hsrc hzl hz hb hb2 hu hk
    obtain ⟨u', w', G', hr, inv', hav, h1⟩ := append_out hT inv ht hkd he o.type hno hpl hpx hsrc hzl hz hb hb2 hu
    refine ⟨u', w', _, _, G', .inl (run u' w' hr), hk, inv', ?_, ?_⟩
    · subst hav; exact .arr k gen h1
    · simp only [V.ok]
      exact ⟨_, upd_same _ _ _, Nat.le_refl _⟩
  unfold appendVC at h
  split at h
  · rename_i hkd
    obtain ⟨hc, h2⟩ := cond_F h
    simp only [Bool.and_eq_true] at hc
    have he := blt hc.1
    obtain ⟨xs, h3, hpx, hsrc⟩ := conts_sound inv x h2
    split at h3
    · rename_i hs
      rw [hs] at s1
      split at h3
      · rename_i hd
        obtain ⟨⟨b1, b2, b3⟩, h4⟩ := need_p h3
        exact fin d 0 .own [] xs (no_arr hd 0) (by simp only [V.okL]) hpx hkd he hsrc (fun x hx => by cases hx) b3 (by simpa using b1) (by simpa using b2) (.inl ⟨.inl ⟨s1.lit_eq, rfl⟩, .inl rfl⟩) (by simpa using h4)
      · exact h3.elim
    · rename_i l hs
      rw [hs] at s1 s2
      split at h3
      · rename_i hd
        obtain ⟨⟨b1, b2, b3⟩, h4⟩ := need_p h3
        simp only [V.ok] at s2
        exact fin d 0 .ap l xs (no_arr hd 0) s2 hpx hkd he hsrc (fun x hx => b3 x (by simp [hx])) (fun x hx => b3 x (by simp [hx])) b1 b2 (.inr ⟨s1, rfl⟩) h4
      · exact h3.elim
    · rename_i k g hs
      rw [hs] at s1
      split at h3
      · rename_i en hen
        obtain ⟨⟨hg, hk1, hty, b1, b2, b3⟩, h4⟩ := need_p h3
        subst hg
        have hok := inv.arr k en hen
        have hno : ∀ g, σ.hasA k g → g < en.gen + 1 := fun g ⟨en', q1, q2⟩ => by rw [hen] at q1; cases q1; omega
        have hsv := s1.arr_eq
        unfold ArrOk at hok
        rw [hty] at hok
        have sizes : ∀ {u : Value}, OwnOk T w G k u (T.row t).elem en.l → ∀ x ∈ en.l, x.cells.length = (T.row (T.row t).elem).size := by
          intro u hown x hx
          rcases hown with ⟨_, h⟩ | ⟨b, cap, cur, _, _, _, _, _, _, h7, _⟩
          · rw [h] at hx; cases hx
          · exact h7 x hx
        rcases hk1 with hk1 | hk1
        · rw [hk1] at hok
          exact fin k (en.gen + 1) en.kind en.l xs hno (inv.wfA k en hen) hpx hkd he hsrc (sizes hok.2) b3 b1 b2 (.inl ⟨by rw [hsv]; exact hok.2, .inl hk1⟩) h4
        · rw [hk1] at hok
          rcases hok.2 with hok | hok
          · exact fin k (en.gen + 1) en.kind en.l xs hno (inv.wfA k en hen) hpx hkd he hsrc (sizes hok) b3 b1 b2 (.inl ⟨by rw [hsv]; exact hok, .inr hk1⟩) h4
          · exact fin k (en.gen + 1) en.kind en.l xs hno (inv.wfA k en hen) hpx hkd he hsrc hok.2 b3 b1 b2 (.inr ⟨by rw [hsv]; exact hok.1, hk1⟩) h4
      · exact h3.elim
    · exact h3.elim
  · exact h.elim

end
end Go.Ab
