/-
  Stores, element addresses, lengths, composite values.
-/
import Derived.Test.YtkhhdojgbkophaaGreatK3
set_option linter.unusedVariables false
set_option linter.unusedSimpArgs false
namespace Go.Ab
section
variable {T : Tab} {P : Program} {Φ : Fr} {σ : St} {a : Act} {w : World} {G : Gh} {K : VK} {o : Oper} {d : Nat}
theorem size_setRow (g : Nat) (cs : Array Value) : (w.setRow g cs).heap.size = w.heap.size := by simp [World.setRow]
theorem storeVar_run (hT : TabOk T P) {t : TypeId} (ht : t < T.n t) {g off : Nat} {cur : Array Value} {tt : TypeId} (hw : w.heap[g]? = some (.cells cur tt (0, 0))) {v : Value} (hs : v.cells.size = (T.row t).size) (hl : off + v.cells.size <= cur.size) (h1 : ∀ c ∈ v.cells.toList, c.oneCell' = true) :
    (storeVar t ⟨g, off, none⟩ v).run P w = .ok () (w.setRow g (cur.toList.take off ++ v.cells.toList ++ cur.toList.drop (off + v.cells.toList.length)).toArray) := by
  have := run_storeCells_at (P := P) g off tt v.cells.toList 0 cur w hw (by simpa using hl) h1
  simp only [Nat.add_zero] at this
  simp [storeVar, size_run' hT ht, hs, this]
theorem atom_pure {p : Nat -> Prop} {q : Nat -> Nat -> Prop} {y : V} (h : y.atom = true) (hok : y.ok p q) : y.pure := by
  cases y with
  | lit u => simp only [V.pure, V.ok]
  | sl l => simp only [V.pure, V.ok] at hok ⊢; exact hok
  | cap l => simp only [V.pure, V.ok] at hok ⊢; exact hok
  | fn g l => simp only [V.pure, V.ok] at hok ⊢; exact stillL_pure h hok
  | _ => simp [V.atom] at h
theorem atom_one {y : V} (h : y.atom = true) : y.one = true := by cases y <;> simp_all [V.atom, V.one]
theorem atom_cells {y : V} (h : y.atom = true) : y.cells = [y] := by cases y <;> simp_all [V.atom, V.cells]
theorem flat_set {l : List V} {sz : Nat} (hz : ∀ x ∈ l, x.cells.length = sz) {i : Nat} {x x' : V} (hi : l[i]? = some x) {off : Nat} {ys : List V} (hx' : x'.cells = splice x.cells off ys) (hle : off + ys.length <= sz) :
    (l.set i x').flatMap V.cells = splice (l.flatMap V.cells) (i * sz + off) ys := by
  induction l generalizing i with
  | nil => simp at hi
  | cons y r ih =>
    have hy : y.cells.length = sz := hz y (by simp)
    rw [splice_eq] at hx' ⊢
    cases i with
    | zero =>
      simp at hi
      subst hi
      simp only [List.set_cons_zero, List.flatMap_cons, Nat.zero_mul, Nat.zero_add, hx']
      rw [List.take_append_of_le_length (by omega), List.drop_append_of_le_length (by omega)]
      simp
    | succ i =>
      simp only [List.getElem?_cons_succ] at hi
      have := ih (fun x hx => hz x (by simp [hx])) hi
      rw [splice_eq] at this
      have e : (i + 1) * sz + off = y.cells.length + (i * sz + off) := by rw [hy, Nat.succ_mul]; omega
      simp only [List.set_cons_succ, List.flatMap_cons, this, e, List.take_append, List.drop_append]
      have t1 : List.take (y.cells.length + (i * sz + off)) y.cells = y.cells := List.take_of_length_le (by omega)
      have t2 : List.drop (y.cells.length + (i * sz + off) + ys.length) y.cells = [] := List.drop_of_length_le (by omega)
      have t3 : y.cells.length + (i * sz + off) + ys.length - y.cells.length = i * sz + off + ys.length := by omega
      rw [t1, t2, Nat.add_sub_cancel_left, t3]
      simp
theorem store_sound (hT : TabOk T P) (inv : Inv T Φ σ a w G) (t : TypeId) (x y : Operand) (ho : o.op = .store t x y) (ht : t < T.n t) (h : storeVC (T.row t) σ (σ.ev x) (σ.ev y) K) : Out T Φ σ a K ((execOp a.eval o).run P w) := by
  obtain ⟨h1, h2⟩ := inv.ev x
  obtain ⟨y1, y2⟩ := inv.ev y
  unfold storeVC at h
  split at h
  · rename_i i off hx
    rw [hx] at h1
    split at h
    · rename_i cs hcs
      obtain ⟨hc, h3⟩ := cond_F h
      clear h
      simp only [Bool.and_eq_true, lenR_eq] at hc
      obtain ⟨⟨c1, c2⟩, c3⟩ := hc
      have c1' : (σ.ev y).cells.length = (T.row t).size := by simpa [Nat.beq_eq] using c1
      have c2' : off + (T.row t).size <= cs.length := by simpa using c2
      rw [forceL_eq] at h3
      have hy := y1.cells (allR_iff.1 c3)
      obtain ⟨c, tt, g1, g2, g3⟩ := inv.box i cs hcs
      have hlen : (a.eval y).cells.size = (T.row t).size := by have := hy.len; simp at this; omega
      have hcl : c.size = cs.length := by have := g2.len; simpa using this
      have hrun := storeVar_run (P := P) hT ht g1 (v := a.eval y) (off := off) hlen (by omega) hy.one
      refine ⟨undef, w.setRow (G.β i) (c.toList.take off ++ (a.eval y).cells.toList ++ c.toList.drop (off + (a.eval y).cells.toList.length)).toArray, _, _, G, .inr ⟨by simp [execOp, ho, h1.box_eq, Instr.storeAt, Instr.sureAddr, hrun], rfl⟩, h3, ?_, .bot _, by simp only [V.ok]⟩
      refine inv.setBox hcs (c := (c.toList.take off ++ (a.eval y).cells.toList ++ c.toList.drop (off + (a.eval y).cells.toList.length)).toArray) (t := tt) ?_ (okL_splice (inv.wfB i cs hcs) (ok_cells y2) off) (setRow_heap w _ c _ tt _ g1) (fun b hb => setRow_other w _ b _ hb) (size_setRow _ _) rfl rfl rfl
      simpa using g2.splice hy off
    · exact h.elim
  · rename_i k g sz i off hx
    rw [hx] at h1
    split at h
    · rename_i en hen
      obtain ⟨⟨hg, hkd⟩, h3⟩ := need_p h
      obtain ⟨z, hz, h4⟩ := idx_p h3
      obtain ⟨hc, h5⟩ := cond_F h4
      clear h h3 h4
      simp only [Bool.and_eq_true, lenR_eq] at hc
      obtain ⟨⟨⟨c1, c2⟩, c4⟩, c3⟩ := hc
      have c1' : (σ.ev y).cells.length = (T.row t).size := by simpa [Nat.beq_eq] using c1
      have c2' : off + (T.row t).size <= z.cells.length := by simpa using c2
      have c4' : z.cells.length = sz := by simpa [Nat.beq_eq] using c4
      rw [forceL_eq] at h5
      have c3' := allR_iff.1 c3
      have hy := y1.cells (fun u hu => atom_one (c3' u hu))
      obtain ⟨ad, n, c, he, hav⟩ := h1.ae_inv
      subst hg
      have hok := inv.arr k en hen
      have hok' := hok
      unfold ArrOk at hok
      rw [hkd] at hok
      obtain ⟨hty, hown⟩ := hok
      rcases hown with ⟨e1, e2⟩ | ⟨b, cap, cur, e1, e2, e3, e4, e5, e6, e7, e8⟩
      · rw [e2] at hz; simp at hz
      · rw [hav] at e1
        cases e1
        have hszT : sz = (T.row en.ty).size := by rw [<- c4']; exact e7 z (List.mem_of_getElem? hz)
        have hlen : (a.eval y).cells.size = (T.row t).size := by have := hy.len; simp at this; omega
        have hi : i < en.l.length := (List.getElem?_eq_some_iff.1 hz).1
        have hmul : i * sz + sz <= en.l.length * sz := by rw [<- Nat.succ_mul]; exact Nat.mul_le_mul_right _ hi
        have hmul2 : en.l.length * sz <= c * sz := Nat.mul_le_mul_right _ e4
        have hcs : cur.size = c * sz := by rw [hszT]; exact e6
        have hrun := storeVar_run (P := P) hT ht e3 (v := a.eval y) (off := i * sz + off) hlen (by omega) hy.one
        have hcells : (reCell z (splice z.cells off (σ.ev y).cells)).cells = splice z.cells off (σ.ev y).cells := by
          have hlenS : (splice z.cells off (σ.ev y).cells).length = z.cells.length := by
            rw [splice_eq]; simp; omega
          unfold reCell
          split
          · rfl
          · rename_i hnot
            have h1c : z.cells = [z] := by cases z <;> simp_all [V.cells]
            rw [h1c] at hlenS
            match hsp : splice z.cells off (σ.ev y).cells with
            | [] => rw [h1c] at hsp; rw [hsp] at hlenS; simp at hlenS
            | u :: r =>
              have hr : r = [] := by
                rw [h1c] at hsp; rw [hsp] at hlenS; simp at hlenS; exact hlenS
              subst hr
              rw [h1c] at c2'
              simp only [List.length_singleton] at c2'
              by_cases h0 : (T.row t).size = 0
              · have hn : (σ.ev y).cells = [] := List.eq_nil_of_length_eq_zero (by omega)
                rw [hn, h1c, splice_eq] at hsp
                have hoff : off = 0 \/ off = 1 := by omega
                have hu : u = z := by rcases hoff with rfl | rfl <;> (simp at hsp; exact hsp.symm)
                subst hu
                exact h1c
              · have hoff : off = 0 := by omega
                subst hoff
                have h1l : (σ.ev y).cells.length = 1 := by omega
                match hyc : (σ.ev y).cells, h1l with
                | [q], _ =>
                  rw [hyc, h1c, splice_eq] at hsp
                  simp at hsp
                  subst hsp
                  exact atom_cells (c3' q (by rw [hyc]; simp))
        have hflat := flat_set e7 hz (x' := reCell z (splice z.cells off (σ.ev y).cells)) (off := off) (ys := (σ.ev y).cells) hcells (by omega)
        have hpure : pureL (en.l.set i (reCell z (splice z.cells off (σ.ev y).cells))) := by
          have hpl := okL_iff.1 (inv.wfA k en hen)
          refine okL_iff.2 ?_
          intro u hu
          rcases List.mem_or_eq_of_mem_set hu with hu | hu
          · exact hpl u hu
          · subst hu
            have hzc := ok_cells (hpl z (List.mem_of_getElem? hz))
            have hyc : pureL (σ.ev y).cells := by
              refine okL_iff.2 ?_
              exact fun q hq => atom_pure (c3' q hq) (okL_iff.1 (ok_cells y2) q hq)
            have hs := okL_splice hzc hyc off
            unfold reCell
            split
            · simp only [V.ok]; exact hs
            · split
              · rename_i q r hq
                rw [hq] at hs
                exact hs.1
              · simp only [V.ok]
        refine ⟨undef, w.setRow b (cur.toList.take (i * sz + off) ++ (a.eval y).cells.toList ++ cur.toList.drop (i * sz + off + (a.eval y).cells.toList.length)).toArray, _, _, G, .inr ⟨?_, rfl⟩, h5, ?_, .bot _, by simp only [V.ok]⟩
        · rw [add_lit', Nat.zero_add] at he
          simp [execOp, ho, he, Instr.storeAt, Instr.sureAddr, hrun]
        · have hkeep : Keep w (w.setRow b (cur.toList.take (i * sz + off) ++ (a.eval y).cells.toList ++ cur.toList.drop (i * sz + off + (a.eval y).cells.toList.length)).toArray) G G :=
            ⟨fun _ h => h, fun b' hb' => setRow_other w _ b' _ (fun e => by subst e; rw [e2] at hb'; cases hb')⟩
          refine inv.setArr (k := k) (en := { en with l := en.l.set i (reCell z (splice z.cells off (σ.ev y).cells)) }) (av' := G.av) (O' := G.O) (fun g ⟨en', q1, q2⟩ => by rw [hen] at q1; cases q1; exact q2) (fun _ _ _ => rfl) hpure ?_ (fun _ _ _ => rfl) (fun _ => .inl rfl)
            (fun b' _ hb' => setRow_other w _ b' _ (fun e => by subst e; exact hb' e2)) (by rw [size_setRow]; exact Nat.le_refl _) rfl rfl rfl
          unfold ArrOk
          simp only [hkd]
          refine ⟨hty, .inr ⟨b, c, _, ?_, e2, setRow_heap w b cur _ _ _ e3, by simpa using e4, e5, ?_, ?_, ?_⟩⟩
          · simpa using hav
          · have := hy.len
            simp only [List.size_toArray, List.length_append, List.length_take, List.length_drop, Array.length_toList] at this ⊢
            rw [<- hszT]
            simp only [Array.length_toList] at *
            omega
          · intro u hu
            rcases List.mem_or_eq_of_mem_set hu with hu | hu
            · exact e7 u hu
            · subst hu
              rw [hcells, splice_eq, <- hszT]
              simp
              omega
          · rw [hflat]
            have hsp := (e8.splice hy (i * sz + off)).keep hkeep (p := fun _ => False) (q := fun _ _ => False) ?_ (fun _ h => h.elim) (fun _ _ h => h.elim)
            · have hyl : (a.eval y).cells.toList.length = (T.row t).size := by simpa using hlen
              have e9 : List.take ((en.l.set i (reCell z (splice z.cells off (σ.ev y).cells))).length * (T.row en.ty).size) (cur.toList.take (i * sz + off) ++ (a.eval y).cells.toList ++ cur.toList.drop (i * sz + off + (a.eval y).cells.toList.length)) =
                  List.take (i * sz + off) (List.take (en.l.length * (T.row en.ty).size) cur.toList) ++ (a.eval y).cells.toList ++ List.drop (i * sz + off + (a.eval y).cells.toList.length) (List.take (en.l.length * (T.row en.ty).size) cur.toList) := by
                rw [List.length_set, <- hszT]
                rw [List.take_append, List.take_append, List.take_take, List.take_take, List.drop_take]
                have q1 : min (en.l.length * sz) (i * sz + off) = i * sz + off := by omega
                have q2 : min (i * sz + off) (en.l.length * sz) = i * sz + off := by omega
                rw [q1, q2]
                have q3 : (List.take (i * sz + off) cur.toList).length = i * sz + off := by rw [List.length_take]; simp; omega
                rw [List.length_append, q3, List.take_of_length_le (l := (a.eval y).cells.toList) (by omega)]
              simp only at hsp ⊢
              rw [e9, <- hszT]
              rw [<- hszT] at hsp
              exact hsp
            · refine okL_splice ?_ ?_ _
              · rw [okL_iff]
                intro u hu
                obtain ⟨j, hj⟩ := List.getElem?_of_mem hu
                exact ok_of_mem_flat (inv.wfA k en hen) hj
              · rw [okL_iff]
                exact fun q hq => atom_pure (c3' q hq) (okL_iff.1 (ok_cells y2) q hq)
    · exact h.elim
  · exact h.elim
end
section
variable {T : Tab} {P : Program} {Φ : Fr} {σ : St} {a : Act} {w : World} {G : Gh} {K : VK} {o : Oper} {d : Nat}
theorem indexAt_slice_run (hT : TabOk T P) {t : TypeId} (ht : t < T.n t) (hk : (T.row t).kd = .slice) (he : (T.row t).elem < T.n (T.row t).elem) (ad : Addr) (len cap : Nat) (k : IntKind) (n : Int) (h0 : 0 <= n) (h1 : n < len) :
    (Instr.indexAt t (.slice (some ad) len cap) (.int k n)).run P w = .ok (.pointer (some (ad.add (n.toNat * (T.row (T.row t).elem).size)))) w := by
  simp [Instr.indexAt, asIntOf, und_run (und_slice (hT t ht) hk), h0, h1, size_run' hT he]
theorem indexAt_array_run (hT : TabOk T P) {t : TypeId} (ht : t < T.n t) (hk : (T.row t).kd = .array) (he : (T.row t).elem < T.n (T.row t).elem) (ad : Addr) (k : IntKind) (n : Nat) (h1 : n < (T.row t).alen) :
    (Instr.indexAt t (.pointer (some ad)) (.int k n)).run P w = .ok (.pointer (some (ad.add (n * (T.row (T.row t).elem).size)))) w := by
  simp [Instr.indexAt, asIntOf, und_run (und_array (hT t ht) hk), h1, size_run' hT he, Instr.sureAddr]
theorem indexAddr_sound (hT : TabOk T P) (inv : Inv T Φ σ a w G) (t : TypeId) (x y : Operand) (ho : o.op = .indexAddr t x y) (ht : t < T.n t) (h : indexAddrVC T (T.row t) σ (σ.ev x) (σ.ev y) K) : Out T Φ σ a K ((execOp a.eval o).run P w) := by
  obtain ⟨h1, h2⟩ := inv.ev x
  obtain ⟨y1, y2⟩ := inv.ev y
  have frozen : ∀ (l : List V) (ki : IntKind) (n : Int), (T.row t).kd = .slice -> a.eval y = .int ki n -> Rv w G (a.eval x) (.sl l) -> pureL l ->
      need (0 <= n /\ n < l.length) (idx l n.toNat fun x => forceL x.cells fun cs => cond (Nat.beq (lenR cs) (T.row (T.row t).elem).size && Nat.blt (T.row t).elem (T.n (T.row t).elem)) (K (.fp cs) []) False) -> Out T Φ σ a K ((execOp a.eval o).run P w) := by
    intro l ki n hkd hyv hx hpl hh
    obtain ⟨⟨n0, n1⟩, h3⟩ := need_p hh
    obtain ⟨z, hz, h4⟩ := idx_p h3
    rw [forceL_eq] at h4
    obtain ⟨hc, h5⟩ := cond_F h4
    simp only [Bool.and_eq_true, lenR_eq] at hc
    have hc1 : z.cells.length = (T.row (T.row t).elem).size := by simpa [Nat.beq_eq] using hc.1
    have he := blt hc.2
    rcases hx.sl_inv with ⟨e1, e2⟩ | ⟨ad, c, sz, cc, e1, e2, e3, e4, e5, e6, e7⟩
    · rw [e2] at hz; simp at hz
    · have hsz : sz = (T.row (T.row t).elem).size := by rw [<- e5 z (List.mem_of_getElem? hz)]; exact hc1
      have hlen : 0 < l.length := by have := (List.getElem?_eq_some_iff.1 hz).1; omega
      refine .plain inv (v' := .pointer (some (ad.add (n.toNat * (T.row (T.row t).elem).size)))) (by simp [execOp, ho, hyv, e1, indexAt_slice_run hT ht hkd he ad l.length c ki n n0 n1]) h5 ?_ ?_
      · have hH := Here.elem e5 (w := w) (G := G) ⟨cc, e6, e7⟩ hz 0
        obtain ⟨cc', q1, q2⟩ := hH.out
        rw [List.drop_zero, Nat.add_zero, hsz] at q1
        rw [List.drop_zero] at q2
        exact .fp _ _ cc' (fun _ => by rw [add_block]; exact e4 hlen) q1 q2
      · simp only [V.ok]
        exact ok_cells (okL_iff.1 hpl z (List.mem_of_getElem? hz))
  unfold indexAddrVC at h
  split at h
  · rename_i ki n hkd hy
    rw [hy] at y1
    have hyv := y1.lit_eq
    split at h
    · rename_i l hx
      rw [hx] at h1 h2
      simp only [V.ok] at h2
      exact frozen l ki n hkd hyv h1 h2 h
    · rename_i l hx
      rw [hx] at h1 h2
      simp only [V.ok] at h2
      exact frozen l ki n hkd hyv h1.cap_sl h2 h
    · rename_i k g hx
      rw [hx] at h1 h2
      split at h
      · rename_i en hen
        obtain ⟨⟨hg, hd, n0, n1⟩, h3⟩ := need_p h
        obtain ⟨hc, h4⟩ := cond_F h3
        simp only [Bool.and_eq_true] at hc
        have he := blt hc.2
        subst hg
        rcases (inv.arr k en hen).reads hd with ⟨e1, e2⟩ | ⟨ad, c, sz, e1, e2, e3, e4, e5⟩
        · rw [e2] at n1; simp at n1; omega
        · have hxv : a.eval x = .slice (some ad) en.l.length c := h1.arr_eq.trans e1
          refine .plain inv (v' := .pointer (some (ad.add (n.toNat * (T.row (T.row t).elem).size)))) (by simp [execOp, ho, hyv, hxv, indexAt_slice_run hT ht hkd he ad en.l.length c ki n n0 n1]) h4 ?_ (by simpa only [V.ok] using h2)
          have := Rv.ae (w := w) (G := G) k en.gen (T.row (T.row t).elem).size n.toNat 0 ad en.l.length c e1
          simpa using this
      · exact h.elim
    · exact h.elim
  · rename_i ki n hkd hy
    rw [hy] at y1
    have hyv : a.eval y = .int ki ((n : Nat) : Int) := y1.lit_eq
    split at h
    · rename_i i off hx
      rw [hx] at h1 h2
      obtain ⟨hc, h3⟩ := cond_F h
      simp only [Bool.and_eq_true] at hc
      refine .plain inv (v' := .pointer (some ((⟨G.β i, off, none⟩ : Addr).add (n * (T.row (T.row t).elem).size)))) (by simp [execOp, ho, hyv, h1.box_eq, indexAt_array_run hT ht hkd (blt hc.2) _ ki n (blt hc.1)]) h3 ?_ (by simpa only [V.ok] using h2)
      rw [add_lit']
      exact .box _ _
    · rename_i cs hx
      rw [hx] at h1 h2
      obtain ⟨hc, h3⟩ := cond_F h
      simp only [Bool.and_eq_true] at hc
      obtain ⟨ad, cc, he, hf1, hcc, hr⟩ := h1.fp_inv
      rw [forceL_eq, dropR_eq] at h3
      refine .plain inv (v' := .pointer (some (ad.add (n * (T.row (T.row t).elem).size)))) (by simp [execOp, ho, hyv, he, indexAt_array_run hT ht hkd (blt hc.2) _ ki n (blt hc.1)]) h3 ?_ ?_
      · refine .fp _ _ (fun j => cc (n * (T.row (T.row t).elem).size + j)) (fun hne => ?_) (fun j y hy => ?_) (fun j y hy => ?_)
        · rw [add_block]; exact hf1 (by rintro rfl; simp at hne)
        · rw [List.getElem?_drop] at hy
          rw [add_add']; exact hcc _ y hy
        · rw [List.getElem?_drop] at hy
          exact hr _ y hy
      · simp only [V.ok] at h2 ⊢
        rw [okL_iff] at h2 ⊢
        exact fun y hy => h2 y (List.mem_of_mem_drop hy)
    · exact h.elim
  · exact h.elim
theorem len_sound (hT : TabOk T P) (inv : Inv T Φ σ a w G) (x : Operand) (t : TypeId) (ho : o.op = .call ⟨.builtin .len, ⟨[x]⟩, ⟨[t]⟩⟩) (ht : t < T.n t)
    (hkd : (T.row t).kd = .slice) (h : lenVC σ (σ.ev x) K) : Out T Φ σ a K ((execOp a.eval o).run P w) := by
  obtain ⟨h1, h2⟩ := inv.ev x
  have run : ∀ (u : Value) (m : Nat), a.eval x = u -> (Builtin.len_ #[t] o.type #[u]).run P w = .ok (goInt m) w -> (execOp a.eval o).run P w = .ok (.value (.int .i64 m)) w := by
    intro u m hu hr
    simp only [execOp, ho, resolve, invoke, builtin, Sem.run_bind, Sem.run_pure, Result.andThen_ok, List.map_toArray, List.map_cons, List.map_nil, hu, hr]
    rfl
  have sl : ∀ (b : Option Addr) (m c : Nat), (T.row t).kd = .slice -> a.eval x = .slice b m c -> (execOp a.eval o).run P w = .ok (.value (.int .i64 m)) w := fun b m c hkd hu =>
    run _ m hu (by simp [Builtin.len_, und_run (und_slice (hT t ht) hkd)])
  unfold lenVC at h
  split at h
  · rename_i hx
    rw [hx] at h1
    exact .plain inv (sl none 0 0 hkd h1.lit_eq) h (I_ok _ _ _ _) lit_triv
  · rename_i l hx
    rw [hx] at h1
    rcases h1.sl_inv with ⟨e1, e2⟩ | ⟨ad, c, sz, cc, e1, _⟩
    · subst e2; exact .plain inv (sl none 0 0 hkd e1) h (I_ok _ _ _ _) lit_triv
    · exact .plain inv (sl _ _ c hkd e1) h (I_ok _ _ _ _) lit_triv
  · rename_i l hx
    rw [hx] at h1
    rcases h1.cap_inv with ⟨e1, e2⟩ | ⟨ad, sz, cc, e1, _⟩
    · subst e2; exact .plain inv (sl none 0 0 hkd e1) h (I_ok _ _ _ _) lit_triv
    · exact .plain inv (sl _ _ _ hkd e1) h (I_ok _ _ _ _) lit_triv
  · rename_i k g hx
    rw [hx] at h1
    split at h
    · rename_i en hen
      obtain ⟨⟨hg, hd⟩, h3⟩ := need_p h
      subst hg
      rcases (inv.arr k en hen).reads hd with ⟨e1, e2⟩ | ⟨ad, c, sz, e1, _⟩
      · rw [e2] at h3; exact .plain inv (sl none 0 0 hkd (h1.arr_eq.trans e1)) h3 (I_ok _ _ _ _) lit_triv
      · exact .plain inv (sl _ _ c hkd (h1.arr_eq.trans e1)) h3 (I_ok _ _ _ _) lit_triv
    · exact h.elim
  · exact h.elim
theorem slen_sound (hT : TabOk T P) (inv : Inv T Φ σ a w G) (x : Operand) (t : TypeId) (ho : o.op = .call ⟨.builtin .len, ⟨[x]⟩, ⟨[t]⟩⟩) (ht : t < T.n t) (hkd : (T.row t).kd = .str) (h : slenVC (σ.ev x) K) : Out T Φ σ a K ((execOp a.eval o).run P w) := by
  obtain ⟨h1, h2⟩ := inv.ev x
  unfold slenVC at h
  split at h
  · rename_i s hx
    rw [hx] at h1
    have hr : (Builtin.len_ #[t] o.type #[.string s]).run P w = .ok (goInt s.size) w := by simp [Builtin.len_, und_run (und_str (hT t ht) hkd)]
    refine .plain inv (v' := .int .i64 s.size) ?_ h (I_ok _ _ _ _) lit_triv
    simp only [execOp, ho, resolve, invoke, builtin, Sem.run_bind, Sem.run_pure, Result.andThen_ok, List.map_toArray, List.map_cons, List.map_nil, h1.lit_eq, hr]
    rfl
  · exact h.elim
theorem part_run (hT : TabOk T P) {t : TypeId} (ht : t < T.n t) {cs : Array Value} {xs : List V} (hl : cs.size = xs.length) (h1 : ∀ c ∈ cs, c.oneCell' = true) (hr : ∀ (i : Nat) c x, cs[i]? = some c -> xs[i]? = some x -> Rv w G c x) (hok : V.okL σ.hasB σ.hasA xs) {off : Nat}
    (h : pickK (T.row t) (dropR xs off) K) : ∃ v' v, (part t cs off).run P w = .ok v' w /\ K v [] /\ Rv w G v' v /\ v.ok σ.hasB σ.hasA := by
  rw [dropR_eq] at h
  unfold pickK at h
  split at h
  · rename_i hagg
    rw [forceL_eq, takeR_eq, lenR_eq] at h
    obtain ⟨hc, h3⟩ := cond_F h
    have hlen : ((xs.drop off).take (T.row t).size).length = (T.row t).size := by simpa [Nat.beq_eq] using hc
    have hle : off + (T.row t).size <= xs.length \/ (T.row t).size = 0 := by rw [List.length_take, List.length_drop] at hlen; omega
    refine ⟨.agg (cs.extract off (off + (T.row t).size)), _, by simp [part, isAgg_run hT ht, hagg, size_run' hT ht], h3, .agg _ _ ?_ ?_ ?_, ?_⟩
    · rw [hlen, Array.size_extract]; omega
    · intro c hcm
      rw [Array.mem_iff_getElem?] at hcm
      obtain ⟨i, hi⟩ := hcm
      rw [Array.getElem?_extract] at hi
      split at hi
      · exact h1 c (Array.mem_of_getElem? hi)
      · cases hi
    · intro i c x hci hx
      rw [Array.getElem?_extract] at hci
      rw [List.getElem?_take, List.getElem?_drop] at hx
      split at hci
      · split at hx
        · exact hr _ c x hci hx
        · cases hx
      · cases hci
    · simp only [V.ok]
      rw [okL_iff] at hok ⊢
      exact fun y hy => hok y (List.mem_of_mem_drop (List.mem_of_mem_take hy))
  · rename_i hagg
    split at h
    · rename_i x r hxr
      rw [force_eq] at h
      have hx : xs[off]? = some x := by
        have : (xs.drop off)[0]? = some x := by rw [hxr]; rfl
        rwa [List.getElem?_drop, Nat.add_zero] at this
      have hlt : off < cs.size := by rw [hl]; exact (List.getElem?_eq_some_iff.1 hx).1
      refine ⟨cs[off], x, by simp [part, isAgg_run hT ht, hagg, hlt], h, hr off _ x (by simp [hlt]) hx, okL_iff.1 hok x (List.mem_of_getElem? hx)⟩
    · exact h.elim
theorem field_sound (hT : TabOk T P) (inv : Inv T Φ σ a w G) (s : TypeId) (x : Operand) (f : Nat) (ho : o.op = .field s x f) (hs : s < T.n s) (h : fieldVC T (T.row s) (σ.ev x) f K) : Out T Φ σ a K ((execOp a.eval o).run P w) := by
  obtain ⟨h1, h2⟩ := inv.ev x
  unfold fieldVC at h
  split at h
  · rename_i off z kd ty cs hkd hf hx
    rw [nth_eq] at hf
    rw [hx] at h1 h2
    obtain ⟨hc, h3⟩ := cond_F h
    obtain ⟨vs, e1, e2, e3, e4⟩ := h1.agg_inv
    obtain ⟨fs, u1, u2, u3⟩ := und_struct (hT s hs) hkd
    rw [u2, List.getElem?_map] at hf
    cases hfs : fs.toList[f]? with
    | none => rw [hfs] at hf; cases hf
    | some fd =>
      rw [hfs] at hf
      simp only [Option.map_some, Option.some.injEq, Prod.mk.injEq] at hf
      have hfa : fs[f]? = some fd := by simpa using hfs
      simp only [V.ok] at h2
      obtain ⟨v', v, hr, hk, hv, hvo⟩ := part_run hT (blt hc) e2 e3 e4 h2 (P := P) h3
      refine .plain inv (v' := v') ?_ hk hv hvo
      simp [execOp, ho, e1, Instr.field, und_run u1, hfa, asAgg, hf.1, hf.2.2.2, hr]
  · exact h.elim
theorem index_sound (hT : TabOk T P) (inv : Inv T Φ σ a w G) (t : TypeId) (x y : Operand) (ho : o.op = .index t x y) (ht : t < T.n t) (h : indexVC T (T.row t) (σ.ev x) (σ.ev y) K) : Out T Φ σ a K ((execOp a.eval o).run P w) := by
  obtain ⟨h1, h2⟩ := inv.ev x
  obtain ⟨y1, y2⟩ := inv.ev y
  unfold indexVC at h
  split at h
  · rename_i s ki n hkd hx hy
    rw [hx] at h1
    rw [hy] at y1
    obtain ⟨⟨n0, n1⟩, h3⟩ := need_p h
    have hlt : n.toNat < s.size := by omega
    refine .plain inv ?_ h3 (I_ok _ _ _ _) lit_triv
    simp [execOp, ho, h1.lit_eq, y1.lit_eq, Instr.index, asIntOf, und_run (und_str (hT t ht) hkd), n0, hlt, byteAt]
  · rename_i cs ki n hkd hx hy
    rw [hx] at h1 h2
    rw [hy] at y1
    obtain ⟨hc, h3⟩ := cond_F h
    simp only [Bool.and_eq_true] at hc
    obtain ⟨vs, e1, e2, e3, e4⟩ := h1.agg_inv
    simp only [V.ok] at h2
    obtain ⟨v', v, hr, hk, hv, hvo⟩ := part_run hT (blt hc.2) e2 e3 e4 h2 (P := P) h3
    have hyv : a.eval y = .int ki ((n : Nat) : Int) := y1.lit_eq
    refine .plain inv (v' := v') ?_ hk hv hvo
    simp [execOp, ho, e1, hyv, Instr.index, asIntOf, und_run (und_array (hT t ht) hkd), blt hc.1, size_run' hT (blt hc.2), hr]
  · exact h.elim
theorem fold_list (off : Nat) : ∀ (l : List Value) (k : Nat) (cells : Array Value), off + k + l.length <= cells.size ->
    ((l.zipIdx k).foldl (fun cs p => cs.setIfInBounds (off + p.2) p.1) cells).toList = cells.toList.take (off + k) ++ l ++ cells.toList.drop (off + k + l.length)
  | [], k, cells, h => by simp
  | v :: r, k, cells, h => by
    simp only [List.zipIdx_cons, List.foldl_cons]
    rw [fold_list off r (k + 1) _ (by simp at h ⊢; omega)]
    simp only [Array.toList_setIfInBounds, List.length_cons] at h ⊢
    apply List.ext_getElem?
    intro i
    simp only [List.getElem?_append, List.getElem?_take, List.getElem?_drop, List.length_take, List.length_append, List.getElem?_set, List.length_set, Array.length_toList, List.length_cons]
    by_cases h1 : i < off + k
    · have h0 : ¬ off + k = i := by omega
      simp only [show i < min (off + k) cells.size by omega, show i < min (off + (k + 1)) cells.size by omega, show i < min (off + k) cells.size + (r.length + 1) by omega, show i < min (off + (k + 1)) cells.size + r.length by omega, h1, show i < off + (k + 1) by omega, if_true, h0, if_false]
    · by_cases h2 : i = off + k
      · subst h2
        simp only [show off + k < min (off + (k + 1)) cells.size by omega, show off + k < min (off + (k + 1)) cells.size + r.length by omega, show off + k < off + (k + 1) by omega, if_true, show off + k < cells.size by omega, show off + k < min (off + k) cells.size + (r.length + 1) by omega, show ¬ off + k < min (off + k) cells.size by omega, if_false, show off + k - min (off + k) cells.size = 0 by omega, List.getElem?_cons_zero]
      · by_cases h3 : i < off + k + (r.length + 1)
        · simp only [show ¬ i < min (off + (k + 1)) cells.size by omega, show i < min (off + (k + 1)) cells.size + r.length by omega, show i < min (off + k) cells.size + (r.length + 1) by omega, show ¬ i < min (off + k) cells.size by omega, if_true, if_false, show i - min (off + k) cells.size = (i - min (off + (k + 1)) cells.size) + 1 by omega, List.getElem?_cons_succ]
        · simp only [show ¬ i < min (off + (k + 1)) cells.size by omega, show ¬ i < min (off + (k + 1)) cells.size + r.length by omega, show ¬ i < min (off + k) cells.size + (r.length + 1) by omega, if_false, show off + (k + 1) + r.length + (i - (min (off + (k + 1)) cells.size + r.length)) = i by omega, show off + k + (r.length + 1) + (i - (min (off + k) cells.size + (r.length + 1))) = i by omega, show ¬ off + k = i by omega]
theorem fold_cells (off : Nat) (vs cells : Array Value) (h : off + vs.size <= cells.size) : (vs.zipIdx.foldl (fun cs (c, j) => cs.setIfInBounds (off + j) c) cells).toList = cells.toList.take off ++ vs.toList ++ cells.toList.drop (off + vs.toList.length) := by
  have := fold_list off vs.toList 0 cells (by simpa using h)
  simp only [Nat.add_zero] at this
  rw [<- this, <- Array.foldl_toList, Array.toList_zipIdx]
theorem fill_run (inv : Inv T Φ σ a w G) {place place' : Nat -> Option (Nat × Nat)} (ps : List (Nat × Operand)) : ∀ (cells : Array Value) (xs : List V) {K : List V -> Prop}, (∀ i, i ∈ ps.map (·.1) -> ∀ q, place i = some q -> place' i = some q) -> RvL w G cells.toList xs -> V.okL σ.hasB σ.hasA xs -> fillK place σ ps xs K ->
    ∃ cells' xs', Instr.fill place' cells (ps.map fun p => (p.1, a.eval p.2)) = some cells' /\ RvL w G cells'.toList xs' /\ V.okL σ.hasB σ.hasA xs' /\ xs'.length = xs.length /\ K xs' := by
  induction ps with
  | nil =>
    intro cells xs K _ hr hok h
    have h' : forceL xs K := h
    rw [forceL_eq] at h'
    exact ⟨cells, xs, rfl, hr, hok, rfl, h'⟩
  | cons p r ih =>
    intro cells xs K hpl hr hok h
    have h' : (match place p.1 with
      | some (o, z) => cond (Nat.beq (lenR (σ.ev p.2).cells) z && Nat.ble (o + z) (lenR xs) && allR V.one (σ.ev p.2).cells) (fillK place σ r (splice xs o (σ.ev p.2).cells) K) False
      | none => False) := h
    split at h'
    · rename_i off z hp
      obtain ⟨hc, h3⟩ := cond_F h'
      simp only [Bool.and_eq_true, lenR_eq] at hc
      obtain ⟨⟨c1, c2⟩, c3⟩ := hc
      have c1' : (σ.ev p.2).cells.length = z := by simpa [Nat.beq_eq] using c1
      have c2' : off + z <= xs.length := by simpa using c2
      obtain ⟨e1, e2⟩ := inv.ev p.2
      have hv := e1.cells (allR_iff.1 c3)
      have hvl : (a.eval p.2).cells.size = z := by have := hv.len; simp at this; omega
      have hcl : cells.size = xs.length := by have := hr.len; simpa using this
      have hfold := fold_cells off (a.eval p.2).cells cells (by omega)
      have hr' : RvL w G ((a.eval p.2).cells.zipIdx.foldl (fun cs (c, j) => cs.setIfInBounds (off + j) c) cells).toList (splice xs off (σ.ev p.2).cells) := by
        rw [hfold]; exact hr.splice hv off
      obtain ⟨cells', xs', q1, q2, q3, q4, q5⟩ := ih _ _ (fun i hi => hpl i (by simp [hi])) hr' (okL_splice hok (ok_cells e2) off) h3
      refine ⟨cells', xs', ?_, q2, q3, ?_, q5⟩
      · have hpp := hpl p.1 (by simp) _ hp
        simp only [List.map_cons, Instr.fill, hpp]
        rw [if_neg (by simp [hvl]; omega)]
        exact q1
      · rw [q4, splice_eq]; simp; omega
    · exact h'.elim
theorem build_sound (hT : TabOk T P) (inv : Inv T Φ σ a w G) (t : TypeId) (ps : Array (Nat × Operand)) (ho : o.op = .build t ps) (ht : t < T.n t) (h : buildVC T (T.row t) σ ps.toList K) : Out T Φ σ a K ((execOp a.eval o).run P w) := by
  obtain ⟨z, hz, hzc, hz1, hz2⟩ := zero_run (w := w) hT ht
  have hmap : (ps.map fun (p : Nat × Operand) => (p.1, a.eval p.2)).toList = ps.toList.map fun p => (p.1, a.eval p.2) := by simp
  have h0 : RvL w G z.cells.toList (mapR V.lit (T.row t).zero) := by rw [mapR_eq, <- hzc]; exact RvL_lits (by rw [hzc]; exact hz1)
  have h0' : V.okL σ.hasB σ.hasA (mapR V.lit (T.row t).zero) := by rw [mapR_eq]; exact okL_lits
  have fin : ∀ (cells' : Array Value) (xs' : List V), RvL w G cells'.toList xs' -> Rv w G (.agg cells') (.agg xs') := fun cells' xs' hr =>
    .agg _ _ (by have := hr.len; simpa using this) (by have := hr.one; simpa using this) (fun i c x hc hx => hr.rel i c x (by simpa using hc) hx)
  unfold buildVC at h
  split at h
  · rename_i hkd
    obtain ⟨fs, u1, u2, u3⟩ := und_struct (hT t ht) hkd
    have hplaces : ∀ (l : List Field), (∀ f ∈ l, ∃ i, P.info? f.type = some i /\ i.size = sizeB P f.type) -> (l.mapM (fun f => (do pure (f.offset, <- sizeOf f.type) : Sem (Nat × Nat)))).run P w = .ok (l.map fun f => (f.offset, sizeB P f.type)) w := by
      intro l
      induction l with
      | nil => intro _; simp
      | cons f r ihr =>
        intro hl
        obtain ⟨i, hi, hsz⟩ := hl f (by simp)
        have := ihr (fun f hf => hl f (by simp [hf]))
        simp only [List.mapM_cons, Sem.run_bind, size_run hi, Result.andThen_ok, Sem.run_pure, this, List.map_cons, hsz]
    have hpl2 : (fs.mapM (fun f => (do pure (f.offset, <- sizeOf f.type) : Sem (Nat × Nat)))).run P w = .ok (fs.map fun f => (f.offset, sizeB P f.type)) w := by
      have := hplaces fs.toList (by simpa using u3)
      rw [Array.mapM_eq_mapM_toList]
      simp only [Sem.run_map, this, Result.andThen_ok]
      rw [<- Array.toList_map, Array.toArray_toList]
    obtain ⟨cells', xs', q1, q2, q3, q4, q5⟩ := fill_run inv (place' := fun i => (fs.map fun f => (f.offset, sizeB P f.type))[i]?) ps.toList z.cells _ (by
      intro i _ q hq
      rw [nth_eq, u2, List.getElem?_map] at hq
      simp only [Array.getElem?_map]
      cases hf : fs.toList[i]? with
      | none => rw [hf] at hq; cases hq
      | some f =>
        rw [hf] at hq
        have : fs[i]? = some f := by simpa using hf
        rw [this]
        simpa using hq) h0 h0' h
    refine .plain inv (v' := .agg cells') ?_ q5 (fin _ _ q2) (by simpa only [V.ok] using q3)
    simp only [execOp, ho, Instr.build, Sem.run_bind, hz, Result.andThen_ok, und_run u1, hpl2, hmap]
    rw [q1]
    simp
  · rename_i hkd
    obtain ⟨hc, h3⟩ := cond_F h
    have he := blt hc
    obtain ⟨cells', xs', q1, q2, q3, q4, q5⟩ := fill_run inv (place' := fun i => some (i * (T.row (T.row t).elem).size, (T.row (T.row t).elem).size)) ps.toList z.cells _ (fun _ _ _ h => h) h0 h0' h3
    refine .plain inv (v' := .agg cells') ?_ q5 (fin _ _ q2) (by simpa only [V.ok] using q3)
    simp only [execOp, ho, Instr.build, Sem.run_bind, hz, Result.andThen_ok, und_run (und_array (hT t ht) hkd), size_run' hT he, hmap]
    rw [q1]
    simp
  · exact h.elim
theorem conv_sound (hT : TabOk T P) (inv : Inv T Φ σ a w G) (s t : TypeId) (x : Operand) (ho : o.op = .convert s t x) (h : convVC T s t (σ.ev x) K) : Out T Φ σ a K ((execOp a.eval o).run P w) := by
  obtain ⟨h1, h2⟩ := inv.ev x
  unfold convVC at h
  split at h
  · rename_i k0 k k1 n hb hs ht hx
    simp only [Bool.and_eq_true] at hb
    rw [hx] at h1
    have u1 := und_int (hT s (blt hb.1)) hs
    have u2 := und_int (hT t (blt hb.2)) ht
    exact .plain inv (by simp [execOp, ho, h1.lit_eq, convert, und_run u1, und_run u2, Conv.intToInt]) (arith_p h) (I_ok _ _ _ _) lit_triv
  · rename_i b hb hs ht hx
    simp only [Bool.and_eq_true] at hb
    rw [hx] at h1
    have u1 := und_str (hT s (blt hb.1)) hs
    have u2 := und_str (hT t (blt hb.2)) ht
    exact .plain inv (by simp [execOp, ho, h1.lit_eq, convert, und_run u1, und_run u2]) h (.lit _ rfl) lit_triv
  · exact h.elim
end
section
variable {T : Tab} {P : Program} {Φ : Fr} {σ : St} {a : Act} {w : World} {G : Gh} {K : VK} {o : Oper} {d : Nat}
theorem repR_len {α : Type} (n : Nat) (l : List α) : (repR n l).length = n * l.length := by
  induction n with
  | zero => show ([] : List α).length = _; simp
  | succ n ih =>
    have : repR (n + 1) l = appR l (repR n l) := rfl
    rw [this, appR_eq, List.length_append, ih, Nat.succ_mul]; omega
theorem repR_get {α : Type} (n : Nat) (l : List α) : ∀ j, j < n * l.length -> (repR n l)[j]? = l[j % l.length]? := by
  induction n with
  | zero => intro j hj; simp at hj
  | succ n ih =>
    intro j hj
    have : repR (n + 1) l = appR l (repR n l) := rfl
    rw [this, appR_eq, List.getElem?_append]
    split
    · rename_i h; rw [Nat.mod_eq_of_lt h]
    · rename_i h
      rw [ih _ (by rw [Nat.succ_mul] at hj; omega), <- Nat.mod_eq_sub_mod (by omega)]
theorem repR_map {α β : Type} (f : α -> β) (n : Nat) (l : List α) : repR n (l.map f) = (repR n l).map f := by
  induction n with
  | zero => rfl
  | succ n ih =>
    have h1 : repR (n + 1) l = appR l (repR n l) := rfl
    have h2 : repR (n + 1) (l.map f) = appR (l.map f) (repR n (l.map f)) := rfl
    rw [h1, h2, ih, appR_eq, appR_eq, List.map_append]
theorem repR_mem {α : Type} (n : Nat) (l : List α) {x : α} (h : x ∈ repR n l) : x ∈ l := by
  induction n with
  | zero => cases h
  | succ n ih =>
    have : repR (n + 1) l = appR l (repR n l) := rfl
    rw [this, appR_eq, List.mem_append] at h
    exact h.elim id ih
theorem zeros_eq (zero : Array Value) (n : Nat) (hz : 0 < zero.size) : ((Array.range (n * zero.size)).map (zero[· % zero.size]!)).toList = repR n zero.toList := by
  apply List.ext_getElem?
  intro j
  by_cases hj : j < n * zero.size
  · have hm : j % zero.size < zero.size := Nat.mod_lt _ hz
    rw [repR_get n zero.toList j (by simpa using hj)]
    simp [hj, hm]
  · rw [List.getElem?_eq_none (by simp; omega), List.getElem?_eq_none (by rw [repR_len]; simp; omega)]
theorem Inv.newArrG (inv : Inv T Φ σ a w G) {k gen : Nat} (hno : ∀ g, σ.hasA k g -> g < gen) {kd : AK} (hkd : kd = .own \/ kd = .ap) {cur : Array Value} {e : TypeId} (he : e < T.n e) {l : List V} {cap n0 : Nat} (hcap : l.length <= cap) (hm : cap <= maxLen) (hcs : cur.size = cap * (T.row e).size)
    (hz : ∀ x ∈ l, x.cells.length = (T.row e).size) (hp : pureL l) (hr : RvL w G (cur.toList.take (l.length * (T.row e).size)) (l.flatMap V.cells)) :
    ∃ G', Inv T Φ (σ.apps [.a k ⟨gen, kd, e, l⟩]) a ({ w with drawn := n0 }.alloc (.cells cur e)) G' /\ G'.av k gen = .slice (some ⟨w.heap.size, 0, none⟩) l.length cap := by
  let av' : Nat -> Nat -> Value := fun k' g => if k' = k /\ g = gen then .slice (some ⟨w.heap.size, 0, none⟩) l.length cap else G.av k' g
  let G' : Gh := { G with av := av', O := upd G.O w.heap.size (.ar k) }
  let w' : World := { w with drawn := n0 }.alloc (.cells cur e)
  have hold : ∀ b, b < w.heap.size -> w'.heap[b]? = w.heap[b]? := fun b hb => heap_alloc_old { w with drawn := n0 } _ hb
  have hkp : Keep w w' G G' := ⟨fun b hb => by
    have hl := inv.tag b (by rw [hb]; simp)
    show upd G.O _ _ b = _; rw [upd_ne _ _ (by omega)]; exact hb, fun b hb => hold b (inv.tag b (by rw [hb]; simp))⟩
  have hav : av' k gen = .slice (some ⟨w.heap.size, 0, none⟩) l.length cap := by simp [av']
  have hown : OwnOk T w' G' k (G'.av k gen) e l := by
    refine .inr ⟨w.heap.size, cap, cur, hav, upd_same _ _ _, heap_alloc_new { w with drawn := n0 } _, hcap, hm, hcs, hz, hr.keep hkp (p := fun _ => False) (q := fun _ _ => False) ?_ (fun _ h => h.elim) (fun _ _ h => h.elim)⟩
    rw [okL_iff]
    intro u hu
    obtain ⟨j, hj⟩ := List.getElem?_of_mem hu
    exact ok_of_mem_flat hp hj
  refine ⟨G', ?_, hav⟩
  refine inv.setArr (w' := w') (k := k) (en := ⟨gen, kd, e, l⟩) (av' := av') (O' := upd G.O w.heap.size (.ar k)) (fun g hg => Nat.le_of_lt (hno g hg)) (fun k' g hg => ?_) hp ?_ ?_ ?_ (fun b hb _ => hold b hb) (by simp [w']) rfl rfl rfl
  · have : ¬ (k' = k /\ g = gen) := by rintro ⟨rfl, rfl⟩; exact absurd (hno g hg) (by omega)
    simp [av', this]
  · unfold ArrOk
    rcases hkd with rfl | rfl
    · exact ⟨he, hown⟩
    · exact ⟨he, .inl hown⟩
  · intro b hb _; exact upd_ne _ _ (by have := inv.tag b hb; omega)
  · intro b
    by_cases e1 : b = w.heap.size
    · subst e1; exact .inr (.inr (.inl ⟨upd_same _ _ _, mine_new inv, by simp [w']⟩))
    · exact .inl (upd_ne _ _ e1)
theorem no_arr {k : Nat} (hk : σ.ar k = none) (gen : Nat) : ∀ g, σ.hasA k g -> g < gen := fun g ⟨en, h, _⟩ => by rw [hk] at h; cases h
theorem Inv.newArr (inv : Inv T Φ σ a w G) {k : Nat} (hk : σ.ar k = none) {kd : AK} (hkd : kd = .own \/ kd = .ap) {cur : Array Value} {e : TypeId} (he : e < T.n e) {l : List V} {cap n0 : Nat} (hcap : l.length <= cap) (hm : cap <= maxLen) (hcs : cur.size = cap * (T.row e).size)
    (hz : ∀ x ∈ l, x.cells.length = (T.row e).size) (hp : pureL l) (hr : RvL w G (cur.toList.take (l.length * (T.row e).size)) (l.flatMap V.cells)) :
    ∃ G', Inv T Φ (σ.apps [.a k ⟨0, kd, e, l⟩]) a ({ w with drawn := n0 }.alloc (.cells cur e)) G' /\ G'.av k 0 = .slice (some ⟨w.heap.size, 0, none⟩) l.length cap :=
  inv.newArrG (no_arr hk 0) hkd he hcap hm hcs hz hp hr
theorem chunk_ok (agg : Bool) (z : Nat) : ∀ (n : Nat) (cs : List V), cs.length = n * z -> (∀ x ∈ cs, x.atom = true) -> (agg = false -> z = 1) ->
    (chunk agg z n cs).flatMap V.cells = cs /\ (chunk agg z n cs).length = n /\ (∀ x ∈ chunk agg z n cs, x.cells.length = z) /\ (∀ (p : Nat -> Prop) (q : Nat -> Nat -> Prop), V.okL p q cs -> pureL (chunk agg z n cs)) := by
  intro n
  induction n with
  | zero =>
    intro cs h _ _
    have : cs = [] := List.eq_nil_of_length_eq_zero (by simpa using h)
    subst this
    exact ⟨rfl, rfl, fun x hx => (by cases hx), fun _ _ _ => (by show V.okL _ _ []; simp only [V.okL])⟩
  | succ n ih =>
    intro cs h hat hag
    rw [Nat.succ_mul] at h
    have hd : (cs.drop z).length = n * z := by rw [List.length_drop]; omega
    obtain ⟨i1, i2, i3, i4⟩ := ih (cs.drop z) hd (fun x hx => hat x (List.mem_of_mem_drop hx)) hag
    have heq : chunk agg z (n + 1) cs = chunk1 agg z cs :: chunk agg z n (dropR cs z) := rfl
    rw [heq, dropR_eq]
    cases agg with
    | true =>
      have hc1 : chunk1 true z cs = .agg (cs.take z) := by rw [<- takeR_eq]; rfl
      rw [hc1]
      refine ⟨?_, by simp [i2], ?_, ?_⟩
      · rw [List.flatMap_cons, i1]; exact List.take_append_drop z cs
      · intro x hx
        rcases List.mem_cons.1 hx with rfl | hx
        · simp [V.cells]; omega
        · exact i3 x hx
      · intro p q hok
        refine okL_iff.2 fun x hx => ?_
        rcases List.mem_cons.1 hx with rfl | hx
        · simp only [V.ok]
          refine okL_iff.2 fun y hy => atom_pure (hat y (List.mem_of_mem_take hy)) (okL_iff.1 hok y (List.mem_of_mem_take hy))
        · exact okL_iff.1 (i4 p q (okL_iff.2 fun y hy => okL_iff.1 hok y (List.mem_of_mem_drop hy))) x hx
    | false =>
      have hz1 := hag rfl
      subst hz1
      match cs, h with
      | x :: r, h =>
        simp only [List.drop_succ_cons, List.drop_zero] at i1 i2 i3 i4 ⊢
        have hc1 : chunk1 false 1 (x :: r) = x := rfl
        rw [hc1]
        have hx1 := atom_cells (hat x (by simp))
        refine ⟨?_, by simp [i2], ?_, ?_⟩
        · rw [List.flatMap_cons, i1, hx1]; rfl
        · intro y hy
          rcases List.mem_cons.1 hy with rfl | hy
          · rw [hx1]; rfl
          · exact i3 y hy
        · intro p q hok
          refine okL_iff.2 fun y hy => ?_
          rcases List.mem_cons.1 hy with rfl | hy
          · exact atom_pure (hat y (by simp)) (okL_iff.1 hok y (by simp))
          · exact okL_iff.1 (i4 p q (okL_iff.2 fun y hy => okL_iff.1 hok y (by simp [hy]))) y hy
theorem row_size1 (hT : TabOk T P) {t : TypeId} (ht : t < T.n t) (h : (T.row t).agg = false) : (T.row t).size = 1 := by
  obtain ⟨i, h1, h2, h3, z, h4, h5, h6, h7, h8, h9⟩ := (hT t ht).info
  rw [<- h7, h9 h]; rfl
theorem arr_plain {k : Nat} {u : Value} (hav : G.av k 0 = u) (h1 : u.oneCell' = true) : Rv w G u (.arr k 0) := by
  subst hav; exact .arr k 0 h1
theorem buildSlice_run (hT : TabOk T P) {t : TypeId} (ht : t < T.n t) (hkd : (T.row t).kd = .slice) (he : (T.row t).elem < T.n (T.row t).elem) {n : Nat} (hgt : ¬ (n * (T.row (T.row t).elem).size > 2 ^ 24)) {z : Value} (hz : (zeroValue (T.row t).elem).run P w = .ok z w) (parts : Array (Nat × Value)) {cells' : Array Value}
    (q1 : Instr.fill (fun i => some (i * (T.row (T.row t).elem).size, (T.row (T.row t).elem).size)) ((Array.range (n * (T.row (T.row t).elem).size)).map (z.cells[· % z.cells.size]!)) parts.toList = some cells') :
    (Instr.buildSlice t n parts).run P w = .ok (.slice (some ⟨w.heap.size, 0, none⟩) n n) (w.alloc (.cells cells' (T.row t).elem)) := by
  have hu := und_slice (hT t ht) hkd
  unfold Instr.buildSlice
  simp only [Sem.run_bind, und_run hu, Result.andThen_ok, size_run' hT he]
  rw [if_neg hgt]
  by_cases hn1 : n * (T.row (T.row t).elem).size = 0
  · have e0 : ∀ f : Nat -> Value, (Array.range (n * (T.row (T.row t).elem).size)).map f = #[] := by rw [hn1]; intro f; exact Array.size_eq_zero_iff.1 (by simp)
    rw [e0] at q1
    have e1 : ∀ f : Nat -> Value, (Array.range 0).map f = #[] := fun f => Array.size_eq_zero_iff.1 (by simp)
    simp only [hn1, if_true, Sem.run_bind, Sem.run_pure, Result.andThen_ok, e1, q1]
    simp [newRow, newObj, Sem.run]
  · simp only [hn1, if_false, Sem.run_bind, hz, Sem.run_pure, Result.andThen_ok]
    rw [q1]
    simp [newRow, newObj, Sem.run]
theorem buildSlice_sound (hT : TabOk T P) (inv : Inv T Φ σ a w G) (t : TypeId) (n : Nat) (ps : Array (Nat × Operand)) (ho : o.op = .buildSlice t n ps) (ht : t < T.n t) (h : buildSliceVC T (T.row t) σ d n ps.toList K) : Out T Φ σ a K ((execOp a.eval o).run P w) := by
  have hmap : (ps.map fun (p : Nat × Operand) => (p.1, a.eval p.2)).toList = ps.toList.map fun p => (p.1, a.eval p.2) := by simp
  unfold buildSliceVC at h
  split at h
  · rename_i hkd hd
    have hu := und_slice (hT t ht) hkd
    obtain ⟨hc, h2⟩ := cond_F h
    simp only [Bool.and_eq_true] at hc
    obtain ⟨⟨c2, c3⟩, c4⟩ := hc
    have he' := blt c2
    have hsz0 := blt c4
    have hn : n * (T.row (T.row t).elem).size <= 1000 := by simpa using c3
    obtain ⟨z, hz, hzc, hz1, hz2⟩ := zero_run (w := w) hT he'
    have hzs : z.cells.size = (T.row (T.row t).elem).size := by
      have : z.cells.toList.length = (T.row (T.row t).elem).size := by rw [hzc, hz2]
      simpa using this
    have hokz : V.okL σ.hasB σ.hasA (repR n (mapR V.lit (T.row (T.row t).elem).zero)) := by
      refine okL_iff.2 fun x hx => ?_
      have := repR_mem _ _ hx
      rw [mapR_eq, List.mem_map] at this
      obtain ⟨u, _, rfl⟩ := this
      exact lit_triv
    have hr0 : RvL w G ((Array.range (n * (T.row (T.row t).elem).size)).map (z.cells[· % z.cells.size]!)).toList (repR n (mapR V.lit (T.row (T.row t).elem).zero)) := by
      rw [<- hzs, zeros_eq z.cells n (by omega), hzc, mapR_eq, repR_map]
      exact RvL_lits fun v hv => hz1 v (repR_mem _ _ hv)
    obtain ⟨cells', xs', q1, q2, q3, q4, q5⟩ := fill_run inv (place' := fun i => some (i * (T.row (T.row t).elem).size, (T.row (T.row t).elem).size)) ps.toList _ _ (fun _ _ _ h => h) hr0 hokz h2
    obtain ⟨c1, h3⟩ := cond_F q5
    have hlen : xs'.length = n * (T.row (T.row t).elem).size := by rw [q4, repR_len, mapR_eq, List.length_map, hz2]
    obtain ⟨k1, k2, k3, k4⟩ := chunk_ok (T.row (T.row t).elem).agg (T.row (T.row t).elem).size n xs' hlen (allR_iff.1 c1) (fun hf => row_size1 hT he' hf)
    have hcl : cells'.size = n * (T.row (T.row t).elem).size := by have := q2.len; simp at this; omega
    have hnle : n <= 1000 := Nat.le_trans (Nat.le_mul_of_pos_right n hsz0) hn
    obtain ⟨G', inv', hav⟩ := inv.newArr hd (.inl rfl) he' (cur := cells') (l := chunk (T.row (T.row t).elem).agg (T.row (T.row t).elem).size n xs') (cap := n) (n0 := w.drawn) (by omega) (by unfold maxLen; omega) hcl k3 (k4 _ _ q3)
      (by rw [k1, k2, <- hcl, List.take_of_length_le (by simp)]; exact q2)
    refine ⟨.slice (some ⟨w.heap.size, 0, none⟩) n n, w.alloc (.cells cells' (T.row t).elem), _, _, G', .inl ?_, h3, inv', arr_plain (by rw [hav, k2]) rfl, ?_⟩
    · have hgt : ¬ (n * (T.row (T.row t).elem).size > 2 ^ 24) := by omega
      rw [<- hmap] at q1
      simp only [execOp, ho, Sem.run_bind, buildSlice_run hT ht hkd he' hgt hz _ q1, Result.andThen_ok, Sem.run_pure]
    · simp only [V.ok]
      exact ⟨_, upd_same _ _ _, Nat.le_refl _⟩
  · exact h.elim
theorem replicate_flat (n : Nat) (x : V) : (List.replicate n x).flatMap V.cells = repR n x.cells := by
  induction n with
  | zero => rfl
  | succ n ih =>
    have : repR (n + 1) x.cells = appR x.cells (repR n x.cells) := rfl
    rw [this, appR_eq, List.replicate_succ, List.flatMap_cons, ih]
theorem elem_cells (hT : TabOk T P) {e : TypeId} (he : e < T.n e) : (elemOfCells (T.row e) (mapR V.lit (T.row e).zero)).cells = (T.row e).zero.map V.lit /\ (elemOfCells (T.row e) (mapR V.lit (T.row e).zero)).pure := by
  obtain ⟨i, h1, h2, h3, z, h4, h5, h6, h7, h8, h9⟩ := (hT e he).info
  rw [mapR_eq]
  unfold elemOfCells
  split
  · exact ⟨rfl, by simp only [V.pure, V.ok]; exact okL_lits⟩
  · rename_i hf
    rw [h9 hf]
    exact ⟨rfl, by simp only [List.map_cons, List.map_nil, V.pure, V.ok]⟩
theorem makeSlice_run (hT : TabOk T P) {t : TypeId} (ht : t < T.n t) (hkd : (T.row t).kd = .slice) (he : (T.row t).elem < T.n (T.row t).elem) {n : Nat} (hn : n * (T.row (T.row t).elem).bytes <= 140737488355328) (hn2 : n <= 140737488355328) {z : Value} (hz : (zeroValue (T.row t).elem).run P w = .ok z w) :
    ∃ cells' : Array Value, cells' = ((Array.range (n * (T.row (T.row t).elem).size)).map (z.cells[· % z.cells.size]!)) /\
    (Instr.makeSlice t (.int .i64 n) (.int .i64 n)).run P w = .ok (.slice (some ⟨w.heap.size, 0, none⟩) n n) (w.alloc (.cells cells' (T.row t).elem)) := by
  have hu := und_slice (hT t ht) hkd
  obtain ⟨i, h1, h2, h3, _⟩ := (hT _ he).info
  refine ⟨_, rfl, ?_⟩
  have hwrap : IntKind.i64.wrap (n : Int) = n := IntWalk.i64_in _ (by omega)
  have hb : ((i.bytes : Int) * (n : Int)) <= 140737488355328 := by rw [h3, Int.mul_comm]; omega
  unfold Instr.makeSlice
  simp only [Sem.run_bind, und_run hu, Result.andThen_ok, asInt, asIntOf, Sem.run_pure, info_run h1, hwrap]
  have c1 : (decide ((n : Int) < 0) || decide ((i.bytes : Int) * (n : Int) > 2 ^ 48) || decide ((n : Int) < 0) || decide ((n : Int) > (n : Int))) = false := by
    simp only [Bool.or_eq_false_iff, decide_eq_false_iff_not]
    refine ⟨⟨⟨by omega, by omega⟩, by omega⟩, by omega⟩
  rw [if_neg (by rw [c1]; simp)]
  have c2 : ¬ (n * i.bytes > roomBytes) := by rw [h3]; simp only [roomBytes]; omega
  simp only [Int.toNat_natCast, askRoom, if_neg c2, Sem.run_pure, Result.andThen_ok, size_run' hT he, Sem.run_bind]
  by_cases hn1 : n * (T.row (T.row t).elem).size = 0
  · have e1 : ∀ f : Nat -> Value, (Array.range 0).map f = #[] := fun f => Array.size_eq_zero_iff.1 (by simp)
    simp only [hn1, if_true, e1]
    simp [newRow, newObj, Sem.run]
  · simp only [hn1, if_false, Sem.run_bind, hz, Sem.run_pure, Result.andThen_ok]
    simp [newRow, newObj, Sem.run]
theorem makeSlice_sound (hT : TabOk T P) (inv : Inv T Φ σ a w G) (t : TypeId) (x y : Operand) (ho : o.op = .makeSlice t x y) (ht : t < T.n t) (h : makeSliceVC T (T.row t) σ d (σ.ev x) (σ.ev y) K) : Out T Φ σ a K ((execOp a.eval o).run P w) := by
  obtain ⟨x1, x2⟩ := inv.ev x
  obtain ⟨y1, y2⟩ := inv.ev y
  unfold makeSliceVC at h
  split at h
  · rename_i n c hkd hd hx hy
    rw [hx] at x1
    rw [hy] at y1
    obtain ⟨⟨n0, n1, n2, n3⟩, h2⟩ := need_p h
    obtain ⟨hc, h3⟩ := cond_F h2
    simp only [Bool.and_eq_true] at hc
    have he := blt hc.1
    have hs0 := blt hc.2
    subst n1
    obtain ⟨m, rfl⟩ := Int.eq_ofNat_of_zero_le n0
    rw [Int.toNat_natCast] at h3
    obtain ⟨z, hz, hzc, hz1, hz2⟩ := zero_run (w := w) hT he
    have hzs : z.cells.size = (T.row (T.row t).elem).size := by
      have : z.cells.toList.length = (T.row (T.row t).elem).size := by rw [hzc, hz2]
      simpa using this
    obtain ⟨cells', hc', hrun⟩ := makeSlice_run (w := w) hT ht hkd he (n := m) (by omega) (by omega) hz
    obtain ⟨q1, q2⟩ := elem_cells hT he
    have hcl : cells'.size = m * (T.row (T.row t).elem).size := by rw [hc']; simp
    have hr0 : RvL w G cells'.toList (repR m ((T.row (T.row t).elem).zero.map V.lit)) := by
      rw [hc', <- hzs, zeros_eq z.cells m (by omega), hzc, repR_map]
      exact RvL_lits fun v hv => hz1 v (repR_mem _ _ hv)
    obtain ⟨G', inv', hav⟩ := inv.newArr hd (.inl rfl) he (cur := cells') (l := List.replicate m (elemOfCells (T.row (T.row t).elem) (mapR V.lit (T.row (T.row t).elem).zero))) (cap := m) (n0 := w.drawn) (by simp) (by unfold maxLen; omega) hcl
      (by intro u hu; obtain ⟨_, rfl⟩ := List.mem_replicate.1 hu; rw [q1]; simpa using hz2)
      (okL_iff.2 fun u hu => by obtain ⟨_, rfl⟩ := List.mem_replicate.1 hu; exact q2)
      (by rw [replicate_flat, q1, List.length_replicate, <- hcl, List.take_of_length_le (by simp)]; exact hr0)
    refine ⟨.slice (some ⟨w.heap.size, 0, none⟩) m m, w.alloc (.cells cells' (T.row t).elem), _, _, G', .inl ?_, h3, inv', arr_plain (by rw [hav, List.length_replicate]) rfl, ?_⟩
    · simp only [execOp, ho, x1.lit_eq, y1.lit_eq, Sem.run_bind, hrun, Result.andThen_ok, Sem.run_pure]
    · simp only [V.ok]
      exact ⟨_, upd_same _ _ _, Nat.le_refl _⟩
  · exact h.elim
end
end Go.Ab
