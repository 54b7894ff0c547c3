/-
  Stores, element addresses, lengths, composite values.
-/
import Derived.Test.YtbmbfifobonfjaaAbOps2
set_option linter.unusedVariables false
set_option linter.unusedSimpArgs false
namespace Go.Ab
section
variable {T : Tab} {P : Program} {Φ : Fr} {σ : St} {a : Act} {w : World} {G : Gh} {K : VK} {o : Oper} {d : Nat}

theorem size_setRow (g : Nat) (cs : Array Value) : (w.setRow g cs).heap.size = w.heap.size := by simp [World.setRow]

theorem storeVar_run (hT : TabOk T P) {t : TypeId} (ht : t < T.n t) {g off : Nat} {cur : Array Value} {tt : TypeId} (hw : w.heap[g]? = some (.cells cur tt (0, 0))) {v : Value} (hs : v.cells.size = (T.row t).size) (hl : off + v.cells.size ≤ cur.size) (h1 : ∀ c ∈ v.cells.toList, c.oneCell' = true) :
    (storeVar t ⟨g, off, none⟩ v).run P w = .ok () (w.setRow g (cur.toList.take off ++ v.cells.toList ++ cur.toList.drop (off + v.cells.toList.length)).toArray) := by
  have := run_storeCells_at (P := P) g off tt v.cells.toList 0 cur w hw (by simpa using hl) h1
  simp only [Nat.add_zero] at this
  simp [storeVar, size_run' hT ht, hs, this]

theorem atom_pure {p : Nat → Prop} {q : Nat → Nat → Prop} {y : V} (h : y.atom = true) (hok : y.ok p q) : y.pure := by
  cases y <;> simp_all [V.atom, V.pure, V.ok]
theorem atom_one {y : V} (h : y.atom = true) : y.one = true := by cases y <;> simp_all [V.atom, V.one]
theorem atom_cells {y : V} (h : y.atom = true) : y.cells = [y] := by cases y <;> simp_all [V.atom, V.cells]

theorem flat_set {l : List V} {sz : Nat} (hz : ∀ x ∈ l, x.cells.length = sz) {i : Nat} {x x' : V} (hi : l[i]? = some x) {off : Nat} {ys : List V} (hx' : x'.cells = splice x.cells off ys) (hle : off + ys.length ≤ sz) :
    (l.set i x').flatMap V.cells = splice (l.flatMap V.cells) (i * sz + off) ys := by
  induction l generalizing i with
  | nil => simp at hi
  | cons y r ih =>
    have hy : y.cells.length = sz := hz y (by simp)
    rw [splice_eq] at hx' ⊢
    cases i with
    | zero =>
      simp at hi
      subst hi
      simp only [List.set_cons_zero, List.flatMap_cons, Nat.zero_mul, Nat.zero_add, hx']
      rw [List.take_append_of_le_length (by omega), List.drop_append_of_le_length (by omega)]
      simp
    | succ i =>
      simp only [List.getElem?_cons_succ] at hi
      have := ih (fun x hx => hz x (by simp [hx])) hi
      rw [splice_eq] at this
      have e : (i + 1) * sz + off = y.cells.length + (i * sz + off) := by rw [hy, Nat.succ_mul]; omega
      simp only [List.set_cons_succ, List.flatMap_cons, this, e, List.take_append, List.drop_append]
      have t1 : List.take (y.cells.length + (i * sz + off)) y.cells = y.cells := List.take_of_length_le (by omega)
      have t2 : List.drop (y.cells.length + (i * sz + off) + ys.length) y.cells = [] := List.drop_of_length_le (by omega)
      have t3 : y.cells.length + (i * sz + off) + ys.length - y.cells.length = i * sz + off + ys.length := by omega
      rw [t1, t2, Nat.add_sub_cancel_left, t3]
      simp

theorem store_sound (hT : TabOk T P) (inv : Inv T Φ σ a w G) (t : TypeId) (x y : Operand) (ho : o.op = .store t x y) (ht : t < T.n t) (h : storeVC (T.row t) σ (σ.ev x) (σ.ev y) K) : Out T Φ σ a K ((execOp a.eval o).run P w) := by
  obtain ⟨h1, h2⟩ := inv.ev x
  obtain ⟨y1, y2⟩ := inv.ev y
  unfold storeVC at h
  split at h
  · rename_i i off hx
    rw [hx] at h1
    split at h
    · rename_i cs hcs
      obtain ⟨hc, h3⟩ := cond_F h
      clear h
      simp only [Bool.and_eq_true, lenR_eq] at hc
      obtain ⟨⟨c1, c2⟩, c3⟩ := hc
      have c1' : (σ.ev y).cells.length = (T.row t).size := by simpa [Nat.beq_eq] using c1
      have c2' : off + (T.row t).size ≤ cs.length := by simpa using c2
      rw [forceL_eq] at h3
      have hy := y1.cells (allR_iff.1 c3)
      obtain ⟨c, tt, g1, g2, g3⟩ := inv.box i cs hcs
      have hlen : (a.eval y).cells.size = (T.row t).size := by have := hy.len; simp at this; omega
      have hcl : c.size = cs.length := by have := g2.len; simpa using this
      have hrun := storeVar_run (P := P) hT ht g1 (v := a.eval y) (off := off) hlen (by omega) hy.one
      refine ⟨undef, w.setRow (G.β i) (c.toList.take off ++ (a.eval y).cells.toList ++ c.toList.drop (off + (a.eval y).cells.toList.length)).toArray, _, _, G, .inr ⟨by simp [execOp, ho, h1.box_eq, Instr.storeAt, Instr.sureAddr, hrun], rfl⟩, h3, ?_, .bot _, by simp only [V.ok]⟩
      refine inv.setBox hcs (c := (c.toList.take off ++ (a.eval y).cells.toList ++ c.toList.drop (off + (a.eval y).cells.toList.length)).toArray) (t := tt) ?_ (okL_splice (inv.wfB i cs hcs) (ok_cells y2) off) (setRow_heap w _ c _ tt _ g1) (fun b hb => setRow_other w _ b _ hb) (size_setRow _ _) rfl rfl rfl
      simpa using g2.splice hy off
    · exact h.elim
  · rename_i k g sz i off hx
    rw [hx] at h1
    split at h
    · rename_i en hen
      obtain ⟨⟨hg, hkd⟩, h3⟩ := need_p h
      obtain ⟨z, hz, h4⟩ := idx_p h3
      obtain ⟨hc, h5⟩ := cond_F h4
      clear h h3 h4
      simp only [Bool.and_eq_true, lenR_eq] at hc
      obtain ⟨⟨⟨c1, c2⟩, c4⟩, c3⟩ := hc
      have c1' : (σ.ev y).cells.length = (T.row t).size := by simpa [Nat.beq_eq] using c1
      have c2' : off + (T.row t).size ≤ z.cells.length := by simpa using c2
      have c4' : z.cells.length = sz := by simpa [Nat.beq_eq] using c4
      rw [forceL_eq] at h5
      have c3' := allR_iff.1 c3
      have hy := y1.cells (fun u hu => atom_one (c3' u hu))
      obtain ⟨ad, n, c, he, hav⟩ := h1.ae_inv
      subst hg
      have hok := inv.arr k en hen
      have hok' := hok
      unfold ArrOk at hok
      rw [hkd] at hok
      obtain ⟨hty, hown⟩ := hok
      rcases hown with ⟨e1, e2⟩ | ⟨b, cap, cur, e1, e2, e3, e4, e5, e6, e7, e8⟩
      · rw [e2] at hz; simp at hz
      · rw [hav] at e1
        cases e1
        have hszT : sz = (T.row en.ty).size := by rw [← c4']; exact e7 z (List.mem_of_getElem? hz)
        have hlen : (a.eval y).cells.size = (T.row t).size := by have := hy.len; simp at this; omega
        have hi : i < en.l.length := (List.getElem?_eq_some_iff.1 hz).1
        have hmul : i * sz + sz ≤ en.l.length * sz := by rw [← Nat.succ_mul]; exact Nat.mul_le_mul_right _ hi
        have hmul2 : en.l.length * sz ≤ c * sz := Nat.mul_le_mul_right _ e4
        have hcs : cur.size = c * sz := by rw [hszT]; exact e6
        have hrun := storeVar_run (P := P) hT ht e3 (v := a.eval y) (off := i * sz + off) hlen (by omega) hy.one
        have hcells : (reCell z (splice z.cells off (σ.ev y).cells)).cells = splice z.cells off (σ.ev y).cells := by
          have hlenS : (splice z.cells off (σ.ev y).cells).length = z.cells.length := by
            rw [splice_eq]; simp; omega
          unfold reCell
          split
          · rfl
          · rename_i hnot
            have h1c : z.cells = [z] := by cases z <;> simp_all [V.cells]
            rw [h1c] at hlenS
            match hsp : splice z.cells off (σ.ev y).cells with
            | [] => rw [h1c] at hsp; rw [hsp] at hlenS; simp at hlenS
            | u :: r =>
              have hr : r = [] := by
                rw [h1c] at hsp; rw [hsp] at hlenS; simp at hlenS; exact hlenS
              subst hr
              rw [h1c] at c2'
              simp only [List.length_singleton] at c2'
              by_cases h0 : (T.row t).size = 0
              · have hn : (σ.ev y).cells = [] := List.eq_nil_of_length_eq_zero (by omega)
                rw [hn, h1c, splice_eq] at hsp
                have hoff : off = 0 ∨ off = 1 := by omega
                have hu : u = z := by rcases hoff with rfl | rfl <;> (simp at hsp; exact hsp.symm)
                subst hu
                exact h1c
              · have hoff : off = 0 := by omega
                subst hoff
                have h1l : (σ.ev y).cells.length = 1 := by omega
                match hyc : (σ.ev y).cells, h1l with
                | [q], _ =>
                  rw [hyc, h1c, splice_eq] at hsp
                  simp at hsp
                  subst hsp
                  exact atom_cells (c3' q (by rw [hyc]; simp))
        have hflat := flat_set e7 hz (x' := reCell z (splice z.cells off (σ.ev y).cells)) (off := off) (ys := (σ.ev y).cells) hcells (by omega)
        have hpure : pureL (en.l.set i (reCell z (splice z.cells off (σ.ev y).cells))) := by
          have hpl := okL_iff.1 (inv.wfA k en hen)
          refine okL_iff.2 ?_
          intro u hu
          rcases List.mem_or_eq_of_mem_set hu with hu | hu
          · exact hpl u hu
          · subst hu
            have hzc := ok_cells (hpl z (List.mem_of_getElem? hz))
            have hyc : pureL (σ.ev y).cells := by
              refine okL_iff.2 ?_
              exact fun q hq => atom_pure (c3' q hq) (okL_iff.1 (ok_cells y2) q hq)
            have hs := okL_splice hzc hyc off
            unfold reCell
            split
            · simp only [V.ok]; exact hs
            · split
              · rename_i q r hq
                rw [hq] at hs
                exact hs.1
              · simp only [V.ok]
        refine ⟨undef, w.setRow b (cur.toList.take (i * sz + off) ++ (a.eval y).cells.toList ++ cur.toList.drop (i * sz + off + (a.eval y).cells.toList.length)).toArray, _, _, G, .inr ⟨?_, rfl⟩, h5, ?_, .bot _, by simp only [V.ok]⟩
        · rw [add_lit', Nat.zero_add] at he
          simp [execOp, ho, he, Instr.storeAt, Instr.sureAddr, hrun]
        · have hkeep : Keep w (w.setRow b (cur.toList.take (i * sz + off) ++ (a.eval y).cells.toList ++ cur.toList.drop (i * sz + off + (a.eval y).cells.toList.length)).toArray) G G :=
            ⟨fun _ h => h, fun b' hb' => setRow_other w _ b' _ (fun e => by subst e; rw [e2] at hb'; cases hb')⟩
          refine inv.setArr (k := k) (en := { en with l := en.l.set i (reCell z (splice z.cells off (σ.ev y).cells)) }) (av' := G.av) (O' := G.O) (fun g ⟨en', q1, q2⟩ => by rw [hen] at q1; cases q1; exact q2) (fun _ _ _ => rfl) hpure ?_ (fun _ _ _ => rfl) (fun _ => .inl rfl)
            (fun b' _ hb' => setRow_other w _ b' _ (fun e => by subst e; exact hb' e2)) (by rw [size_setRow]; exact Nat.le_refl _) rfl rfl rfl
          unfold ArrOk
          simp only [hkd]
          refine ⟨hty, .inr ⟨b, c, _, ?_, e2, setRow_heap w b cur _ _ _ e3, by simpa using e4, e5, ?_, ?_, ?_⟩⟩
          · simpa using hav
          · have := hy.len
            simp only [List.size_toArray, List.length_append, List.length_take, List.length_drop, Array.length_toList] at this ⊢
            rw [← hszT]
            simp only [Array.length_toList] at *
            omega
          · intro u hu
            rcases List.mem_or_eq_of_mem_set hu with hu | hu
            · exact e7 u hu
            · subst hu
              rw [hcells, splice_eq, ← hszT]
              simp
              omega
          · rw [hflat]
            have hsp := (e8.splice hy (i * sz + off)).keep hkeep (p := fun _ => False) (q := fun _ _ => False) ?_ (fun _ h => h.elim) (fun _ _ h => h.elim)
            · have hyl : (a.eval y).cells.toList.length = (T.row t).size := by simpa using hlen
              have e9 : List.take ((en.l.set i (reCell z (splice z.cells off (σ.ev y).cells))).length * (T.row en.ty).size) (cur.toList.take (i * sz + off) ++ (a.eval y).cells.toList ++ cur.toList.drop (i * sz + off + (a.eval y).cells.toList.length)) =
                  List.take (i * sz + off) (List.take (en.l.length * (T.row en.ty).size) cur.toList) ++ (a.eval y).cells.toList ++ List.drop (i * sz + off + (a.eval y).cells.toList.length) (List.take (en.l.length * (T.row en.ty).size) cur.toList) := by
                rw [List.length_set, ← hszT]
                rw [List.take_append, List.take_append, List.take_take, List.take_take, List.drop_take]
                have q1 : min (en.l.length * sz) (i * sz + off) = i * sz + off := by omega
                have q2 : min (i * sz + off) (en.l.length * sz) = i * sz + off := by omega
                rw [q1, q2]
                have q3 : (List.take (i * sz + off) cur.toList).length = i * sz + off := by rw [List.length_take]; simp; omega
                rw [List.length_append, q3, List.take_of_length_le (l := (a.eval y).cells.toList) (by omega)]
              simp only at hsp ⊢
              rw [e9, ← hszT]
              rw [← hszT] at hsp
              exact hsp
            · refine okL_splice ?_ ?_ _
              · rw [okL_iff]
                intro u hu
                obtain ⟨j, hj⟩ := List.getElem?_of_mem hu
                exact ok_of_mem_flat (inv.wfA k en hen) hj
              · rw [okL_iff]
                exact fun q hq => atom_pure (c3' q hq) (okL_iff.1 (ok_cells y2) q hq)
    · exact h.elim
  · exact h.elim

end
end Go.Ab
