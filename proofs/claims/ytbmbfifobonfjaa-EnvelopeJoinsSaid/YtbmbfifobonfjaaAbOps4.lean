/-
  Element addresses, lengths, parts of composite values, composite values, conversions.
-/
import Derived.Test.YtbmbfifobonfjaaAbOps3
set_option linter.unusedVariables false
set_option linter.unusedSimpArgs false
namespace Go.Ab
section
variable {T : Tab} {P : Program} {Φ : Fr} {σ : St} {a : Act} {w : World} {G : Gh} {K : VK} {o : Oper} {d : Nat}

theorem indexAt_slice_run (hT : TabOk T P) {t : TypeId} (ht : t < T.n t) (hk : (T.row t).kd = .slice) (he : (T.row t).elem < T.n (T.row t).elem) (ad : Addr) (len cap : Nat) (k : IntKind) (n : Int) (h0 : 0 ≤ n) (h1 : n < len) :
    (Instr.indexAt t (.slice (some ad) len cap) (.int k n)).run P w = .ok (.pointer (some (ad.add (n.toNat * (T.row (T.row t).elem).size)))) w := by
  simp [Instr.indexAt, asIntOf, und_run (und_slice (hT t ht) hk), h0, h1, size_run' hT he]

theorem indexAt_array_run (hT : TabOk T P) {t : TypeId} (ht : t < T.n t) (hk : (T.row t).kd = .array) (he : (T.row t).elem < T.n (T.row t).elem) (ad : Addr) (k : IntKind) (n : Nat) (h1 : n < (T.row t).alen) :
    (Instr.indexAt t (.pointer (some ad)) (.int k n)).run P w = .ok (.pointer (some (ad.add (n * (T.row (T.row t).elem).size)))) w := by
  simp [Instr.indexAt, asIntOf, und_run (und_array (hT t ht) hk), h1, size_run' hT he, Instr.sureAddr]

theorem indexAddr_sound (hT : TabOk T P) (inv : Inv T Φ σ a w G) (t : TypeId) (x y : Operand) (ho : o.op = .indexAddr t x y) (ht : t < T.n t) (h : indexAddrVC T (T.row t) σ (σ.ev x) (σ.ev y) K) : Out T Φ σ a K ((execOp a.eval o).run P w) := by
  obtain ⟨h1, h2⟩ := inv.ev x
  obtain ⟨y1, y2⟩ := inv.ev y
  have frozen : ∀ (l : List V) (ki : IntKind) (n : Int), (T.row t).kd = .slice → a.eval y = .int ki n → Rv w G (a.eval x) (.sl l) → pureL l →
      need (0 ≤ n ∧ n < l.length) (idx l n.toNat fun x => forceL x.cells fun cs => cond (Nat.beq (lenR cs) (T.row (T.row t).elem).size && Nat.blt (T.row t).elem (T.n (T.row t).elem)) (K (.fp cs) []) False) → Out T Φ σ a K ((execOp a.eval o).run P w) := by
    intro l ki n hkd hyv hx hpl hh
    obtain ⟨⟨n0, n1⟩, h3⟩ := need_p hh
    obtain ⟨z, hz, h4⟩ := idx_p h3
    rw [forceL_eq] at h4
    obtain ⟨hc, h5⟩ := cond_F h4
    simp only [Bool.and_eq_true, lenR_eq] at hc
    have hc1 : z.cells.length = (T.row (T.row t).elem).size := by simpa [Nat.beq_eq] using hc.1
    have he := blt hc.2
    rcases hx.sl_inv with ⟨e1, e2⟩ | ⟨ad, c, sz, cc, e1, e2, e3, e4, e5, e6, e7⟩
    · rw [e2] at hz; simp at hz
    · have hsz : sz = (T.row (T.row t).elem).size := by rw [← e5 z (List.mem_of_getElem? hz)]; exact hc1
      have hlen : 0 < l.length := by have := (List.getElem?_eq_some_iff.1 hz).1; omega
      refine .plain inv (v' := .pointer (some (ad.add (n.toNat * (T.row (T.row t).elem).size)))) (by simp [execOp, ho, hyv, e1, indexAt_slice_run hT ht hkd he ad l.length c ki n n0 n1]) h5 ?_ ?_
      · have hH := Here.elem e5 (w := w) (G := G) ⟨cc, e6, e7⟩ hz 0
        obtain ⟨cc', q1, q2⟩ := hH.out
        rw [List.drop_zero, Nat.add_zero, hsz] at q1
        rw [List.drop_zero] at q2
        exact .fp _ _ cc' (fun _ => by rw [add_block]; exact e4 hlen) q1 q2
      · simp only [V.ok]
        exact ok_cells (okL_iff.1 hpl z (List.mem_of_getElem? hz))
  unfold indexAddrVC at h
  split at h
  · rename_i ki n hkd hy
    rw [hy] at y1
    have hyv := y1.lit_eq
    split at h
    · rename_i l hx
      rw [hx] at h1 h2
      simp only [V.ok] at h2
      exact frozen l ki n hkd hyv h1 h2 h
    · rename_i l hx
      rw [hx] at h1 h2
      simp only [V.ok] at h2
      exact frozen l ki n hkd hyv h1.cap_sl h2 h
    · rename_i k g hx
      rw [hx] at h1 h2
      split at h
      · rename_i en hen
        obtain ⟨⟨hg, hd, n0, n1⟩, h3⟩ := need_p h
        obtain ⟨hc, h4⟩ := cond_F h3
        simp only [Bool.and_eq_true] at hc
        have he := blt hc.2
        subst hg
        rcases (inv.arr k en hen).reads hd with ⟨e1, e2⟩ | ⟨ad, c, sz, e1, e2, e3, e4, e5⟩
        · rw [e2] at n1; simp at n1; omega
        · have hxv : a.eval x = .slice (some ad) en.l.length c := h1.arr_eq.trans e1
          refine .plain inv (v' := .pointer (some (ad.add (n.toNat * (T.row (T.row t).elem).size)))) (by simp [execOp, ho, hyv, hxv, indexAt_slice_run hT ht hkd he ad en.l.length c ki n n0 n1]) h4 ?_ (by simpa only [V.ok] using h2)
          have := Rv.ae (w := w) (G := G) k en.gen (T.row (T.row t).elem).size n.toNat 0 ad en.l.length c e1
          simpa using this
      · exact h.elim
    · exact h.elim
  · rename_i ki n hkd hy
    rw [hy] at y1
    have hyv : a.eval y = .int ki ((n : Nat) : Int) := y1.lit_eq
    split at h
    · rename_i i off hx
      rw [hx] at h1 h2
      obtain ⟨hc, h3⟩ := cond_F h
      simp only [Bool.and_eq_true] at hc
      refine .plain inv (v' := .pointer (some ((⟨G.β i, off, none⟩ : Addr).add (n * (T.row (T.row t).elem).size)))) (by simp [execOp, ho, hyv, h1.box_eq, indexAt_array_run hT ht hkd (blt hc.2) _ ki n (blt hc.1)]) h3 ?_ (by simpa only [V.ok] using h2)
      rw [add_lit']
      exact .box _ _
    · rename_i cs hx
      rw [hx] at h1 h2
      obtain ⟨hc, h3⟩ := cond_F h
      simp only [Bool.and_eq_true] at hc
      obtain ⟨ad, cc, he, hf1, hcc, hr⟩ := h1.fp_inv
      rw [forceL_eq, dropR_eq] at h3
      refine .plain inv (v' := .pointer (some (ad.add (n * (T.row (T.row t).elem).size)))) (by simp [execOp, ho, hyv, he, indexAt_array_run hT ht hkd (blt hc.2) _ ki n (blt hc.1)]) h3 ?_ ?_
      · refine .fp _ _ (fun j => cc (n * (T.row (T.row t).elem).size + j)) (fun hne => ?_) (fun j y hy => ?_) (fun j y hy => ?_)
        · rw [add_block]; exact hf1 (by rintro rfl; simp at hne)
        · rw [List.getElem?_drop] at hy
          rw [add_add']; exact hcc _ y hy
        · rw [List.getElem?_drop] at hy
          exact hr _ y hy
      · simp only [V.ok] at h2 ⊢
        rw [okL_iff] at h2 ⊢
        exact fun y hy => h2 y (List.mem_of_mem_drop hy)
    · exact h.elim
  · exact h.elim

theorem len_sound (hT : TabOk T P) (inv : Inv T Φ σ a w G) (x : Operand) (t : TypeId) (ho : o.op = .call ⟨.builtin .len, ⟨[x]⟩, ⟨[t]⟩⟩) (ht : t < T.n t)
    (hkd : (T.row t).kd = .slice) (h : lenVC σ (σ.ev x) K) : Out T Φ σ a K ((execOp a.eval o).run P w) := by
  obtain ⟨h1, h2⟩ := inv.ev x
  have run : ∀ (u : Value) (m : Nat), a.eval x = u → (Builtin.len_ #[t] o.type #[u]).run P w = .ok (goInt m) w → (execOp a.eval o).run P w = .ok (.value (.int .i64 m)) w := by
    intro u m hu hr
    simp only [execOp, ho, resolve, invoke, builtin, Sem.run_bind, Sem.run_pure, Result.andThen_ok, List.map_toArray, List.map_cons, List.map_nil, hu, hr]
    rfl
  have sl : ∀ (b : Option Addr) (m c : Nat), (T.row t).kd = .slice → a.eval x = .slice b m c → (execOp a.eval o).run P w = .ok (.value (.int .i64 m)) w := fun b m c hkd hu =>
    run _ m hu (by simp [Builtin.len_, und_run (und_slice (hT t ht) hkd)])
  unfold lenVC at h
  split at h
  · rename_i hx
    rw [hx] at h1
    exact .plain inv (sl none 0 0 hkd h1.lit_eq) h (I_ok _ _ _ _) lit_triv
  · rename_i l hx
    rw [hx] at h1
    rcases h1.sl_inv with ⟨e1, e2⟩ | ⟨ad, c, sz, cc, e1, _⟩
    · subst e2; exact .plain inv (sl none 0 0 hkd e1) h (I_ok _ _ _ _) lit_triv
    · exact .plain inv (sl _ _ c hkd e1) h (I_ok _ _ _ _) lit_triv
  · rename_i l hx
    rw [hx] at h1
    rcases h1.cap_inv with ⟨e1, e2⟩ | ⟨ad, sz, cc, e1, _⟩
    · subst e2; exact .plain inv (sl none 0 0 hkd e1) h (I_ok _ _ _ _) lit_triv
    · exact .plain inv (sl _ _ _ hkd e1) h (I_ok _ _ _ _) lit_triv
  · rename_i k g hx
    rw [hx] at h1
    split at h
    · rename_i en hen
      obtain ⟨⟨hg, hd⟩, h3⟩ := need_p h
      subst hg
      rcases (inv.arr k en hen).reads hd with ⟨e1, e2⟩ | ⟨ad, c, sz, e1, _⟩
      · rw [e2] at h3; exact .plain inv (sl none 0 0 hkd (h1.arr_eq.trans e1)) h3 (I_ok _ _ _ _) lit_triv
      · exact .plain inv (sl _ _ c hkd (h1.arr_eq.trans e1)) h3 (I_ok _ _ _ _) lit_triv
    · exact h.elim
  · exact h.elim

theorem slen_sound (hT : TabOk T P) (inv : Inv T Φ σ a w G) (x : Operand) (t : TypeId) (ho : o.op = .call ⟨.builtin .len, ⟨[x]⟩, ⟨[t]⟩⟩) (ht : t < T.n t) (hkd : (T.row t).kd = .str) (h : slenVC (σ.ev x) K) : Out T Φ σ a K ((execOp a.eval o).run P w) := by
  obtain ⟨h1, h2⟩ := inv.ev x
  unfold slenVC at h
  split at h
  · rename_i s hx
    rw [hx] at h1
    have hr : (Builtin.len_ #[t] o.type #[.string s]).run P w = .ok (goInt s.size) w := by simp [Builtin.len_, und_run (und_str (hT t ht) hkd)]
    refine .plain inv (v' := .int .i64 s.size) ?_ h (I_ok _ _ _ _) lit_triv
    simp only [execOp, ho, resolve, invoke, builtin, Sem.run_bind, Sem.run_pure, Result.andThen_ok, List.map_toArray, List.map_cons, List.map_nil, h1.lit_eq, hr]
    rfl
  · exact h.elim

/-- a part of a composite value -/
theorem part_run (hT : TabOk T P) {t : TypeId} (ht : t < T.n t) {cs : Array Value} {xs : List V} (hl : cs.size = xs.length) (h1 : ∀ c ∈ cs, c.oneCell' = true) (hr : ∀ (i : Nat) c x, cs[i]? = some c → xs[i]? = some x → Rv w G c x) (hok : V.okL σ.hasB σ.hasA xs) {off : Nat}
    (h : pickK (T.row t) (dropR xs off) K) : ∃ v' v, (part t cs off).run P w = .ok v' w ∧ K v [] ∧ Rv w G v' v ∧ v.ok σ.hasB σ.hasA := by
  rw [dropR_eq] at h
  unfold pickK at h
  split at h
  · rename_i hagg
    rw [forceL_eq, takeR_eq, lenR_eq] at h
    obtain ⟨hc, h3⟩ := cond_F h
    have hlen : ((xs.drop off).take (T.row t).size).length = (T.row t).size := by simpa [Nat.beq_eq] using hc
    have hle : off + (T.row t).size ≤ xs.length ∨ (T.row t).size = 0 := by rw [List.length_take, List.length_drop] at hlen; omega
    refine ⟨.agg (cs.extract off (off + (T.row t).size)), _, by simp [part, isAgg_run hT ht, hagg, size_run' hT ht], h3, .agg _ _ ?_ ?_ ?_, ?_⟩
    · rw [hlen, Array.size_extract]; omega
    · intro c hcm
      rw [Array.mem_iff_getElem?] at hcm
      obtain ⟨i, hi⟩ := hcm
      rw [Array.getElem?_extract] at hi
      split at hi
      · exact h1 c (Array.mem_of_getElem? hi)
      · cases hi
    · intro i c x hci hx
      rw [Array.getElem?_extract] at hci
      rw [List.getElem?_take, List.getElem?_drop] at hx
      split at hci
      · split at hx
        · exact hr _ c x hci hx
        · cases hx
      · cases hci
    · simp only [V.ok]
      rw [okL_iff] at hok ⊢
      exact fun y hy => hok y (List.mem_of_mem_drop (List.mem_of_mem_take hy))
  · rename_i hagg
    split at h
    · rename_i x r hxr
      rw [force_eq] at h
      have hx : xs[off]? = some x := by
        have : (xs.drop off)[0]? = some x := by rw [hxr]; rfl
        rwa [List.getElem?_drop, Nat.add_zero] at this
      have hlt : off < cs.size := by rw [hl]; exact (List.getElem?_eq_some_iff.1 hx).1
      refine ⟨cs[off], x, by simp [part, isAgg_run hT ht, hagg, hlt], h, hr off _ x (by simp [hlt]) hx, okL_iff.1 hok x (List.mem_of_getElem? hx)⟩
    · exact h.elim

theorem field_sound (hT : TabOk T P) (inv : Inv T Φ σ a w G) (s : TypeId) (x : Operand) (f : Nat) (ho : o.op = .field s x f) (hs : s < T.n s) (h : fieldVC T (T.row s) (σ.ev x) f K) : Out T Φ σ a K ((execOp a.eval o).run P w) := by
  obtain ⟨h1, h2⟩ := inv.ev x
  unfold fieldVC at h
  split at h
  · rename_i off z kd ty cs hkd hf hx
    rw [nth_eq] at hf
    rw [hx] at h1 h2
    obtain ⟨hc, h3⟩ := cond_F h
    obtain ⟨vs, e1, e2, e3, e4⟩ := h1.agg_inv
    obtain ⟨fs, u1, u2, u3⟩ := und_struct (hT s hs) hkd
    rw [u2, List.getElem?_map] at hf
    cases hfs : fs.toList[f]? with
    | none => rw [hfs] at hf; cases hf
    | some fd =>
      rw [hfs] at hf
      simp only [Option.map_some, Option.some.injEq, Prod.mk.injEq] at hf
      have hfa : fs[f]? = some fd := by simpa using hfs
      simp only [V.ok] at h2
      obtain ⟨v', v, hr, hk, hv, hvo⟩ := part_run hT (blt hc) e2 e3 e4 h2 (P := P) h3
      refine .plain inv (v' := v') ?_ hk hv hvo
      simp [execOp, ho, e1, Instr.field, und_run u1, hfa, asAgg, hf.1, hf.2.2.2, hr]
  · exact h.elim

theorem index_sound (hT : TabOk T P) (inv : Inv T Φ σ a w G) (t : TypeId) (x y : Operand) (ho : o.op = .index t x y) (ht : t < T.n t) (h : indexVC T (T.row t) (σ.ev x) (σ.ev y) K) : Out T Φ σ a K ((execOp a.eval o).run P w) := by
  obtain ⟨h1, h2⟩ := inv.ev x
  obtain ⟨y1, y2⟩ := inv.ev y
  unfold indexVC at h
  split at h
  · rename_i s ki n hkd hx hy
    rw [hx] at h1
    rw [hy] at y1
    obtain ⟨⟨n0, n1⟩, h3⟩ := need_p h
    have hlt : n.toNat < s.size := by omega
    refine .plain inv ?_ h3 (I_ok _ _ _ _) lit_triv
    simp [execOp, ho, h1.lit_eq, y1.lit_eq, Instr.index, asIntOf, und_run (und_str (hT t ht) hkd), n0, hlt, byteAt]
  · rename_i cs ki n hkd hx hy
    rw [hx] at h1 h2
    rw [hy] at y1
    obtain ⟨hc, h3⟩ := cond_F h
    simp only [Bool.and_eq_true] at hc
    obtain ⟨vs, e1, e2, e3, e4⟩ := h1.agg_inv
    simp only [V.ok] at h2
    obtain ⟨v', v, hr, hk, hv, hvo⟩ := part_run hT (blt hc.2) e2 e3 e4 h2 (P := P) h3
    have hyv : a.eval y = .int ki ((n : Nat) : Int) := y1.lit_eq
    refine .plain inv (v' := v') ?_ hk hv hvo
    simp [execOp, ho, e1, hyv, Instr.index, asIntOf, und_run (und_array (hT t ht) hkd), blt hc.1, size_run' hT (blt hc.2), hr]
  · exact h.elim

theorem fold_list (off : Nat) : ∀ (l : List Value) (k : Nat) (cells : Array Value), off + k + l.length ≤ cells.size →
    ((l.zipIdx k).foldl (fun cs p => cs.setIfInBounds (off + p.2) p.1) cells).toList = cells.toList.take (off + k) ++ l ++ cells.toList.drop (off + k + l.length)
  | [], k, cells, h => by simp
  | v :: r, k, cells, h => by
    simp only [List.zipIdx_cons, List.foldl_cons]
    rw [fold_list off r (k + 1) _ (by simp at h ⊢; omega)]
    simp only [Array.toList_setIfInBounds, List.length_cons] at h ⊢
    apply List.ext_getElem?
    intro i
    simp only [List.getElem?_append, List.getElem?_take, List.getElem?_drop, List.length_take, List.length_append, List.getElem?_set, List.length_set, Array.length_toList, List.length_cons]
    by_cases h1 : i < off + k
    · have h0 : ¬ off + k = i := by omega
      simp only [show i < min (off + k) cells.size by omega, show i < min (off + (k + 1)) cells.size by omega, show i < min (off + k) cells.size + (r.length + 1) by omega, show i < min (off + (k + 1)) cells.size + r.length by omega, h1, show i < off + (k + 1) by omega, if_true, h0, if_false]
    · by_cases h2 : i = off + k
      · subst h2
        simp only [show off + k < min (off + (k + 1)) cells.size by omega, show off + k < min (off + (k + 1)) cells.size + r.length by omega, show off + k < off + (k + 1) by omega, if_true, show off + k < cells.size by omega, show off + k < min (off + k) cells.size + (r.length + 1) by omega, show ¬ off + k < min (off + k) cells.size by omega, if_false, show off + k - min (off + k) cells.size = 0 by omega, List.getElem?_cons_zero]
      · by_cases h3 : i < off + k + (r.length + 1)
        · simp only [show ¬ i < min (off + (k + 1)) cells.size by omega, show i < min (off + (k + 1)) cells.size + r.length by omega, show i < min (off + k) cells.size + (r.length + 1) by omega, show ¬ i < min (off + k) cells.size by omega, if_true, if_false, show i - min (off + k) cells.size = (i - min (off + (k + 1)) cells.size) + 1 by omega, List.getElem?_cons_succ]
        · simp only [show ¬ i < min (off + (k + 1)) cells.size by omega, show ¬ i < min (off + (k + 1)) cells.size + r.length by omega, show ¬ i < min (off + k) cells.size + (r.length + 1) by omega, if_false, show off + (k + 1) + r.length + (i - (min (off + (k + 1)) cells.size + r.length)) = i by omega, show off + k + (r.length + 1) + (i - (min (off + k) cells.size + (r.length + 1))) = i by omega, show ¬ off + k = i by omega]

theorem fold_cells (off : Nat) (vs cells : Array Value) (h : off + vs.size ≤ cells.size) : (vs.zipIdx.foldl (fun cs (c, j) => cs.setIfInBounds (off + j) c) cells).toList = cells.toList.take off ++ vs.toList ++ cells.toList.drop (off + vs.toList.length) := by
  have := fold_list off vs.toList 0 cells (by simpa using h)
  simp only [Nat.add_zero] at this
  rw [← this, ← Array.foldl_toList, Array.toList_zipIdx]

theorem fill_run (inv : Inv T Φ σ a w G) {place place' : Nat → Option (Nat × Nat)} (ps : List (Nat × Operand)) : ∀ (cells : Array Value) (xs : List V) {K : List V → Prop}, (∀ i, i ∈ ps.map (·.1) → ∀ q, place i = some q → place' i = some q) → RvL w G cells.toList xs → V.okL σ.hasB σ.hasA xs → fillK place σ ps xs K →
    ∃ cells' xs', Instr.fill place' cells (ps.map fun p => (p.1, a.eval p.2)) = some cells' ∧ RvL w G cells'.toList xs' ∧ V.okL σ.hasB σ.hasA xs' ∧ xs'.length = xs.length ∧ K xs' := by
  induction ps with
  | nil =>
    intro cells xs K _ hr hok h
    have h' : forceL xs K := h
    rw [forceL_eq] at h'
    exact ⟨cells, xs, rfl, hr, hok, rfl, h'⟩
  | cons p r ih =>
    intro cells xs K hpl hr hok h
    have h' : (match place p.1 with
      | some (o, z) => cond (Nat.beq (lenR (σ.ev p.2).cells) z && Nat.ble (o + z) (lenR xs) && allR V.one (σ.ev p.2).cells) (fillK place σ r (splice xs o (σ.ev p.2).cells) K) False
      | none => False) := h
    split at h'
    · rename_i off z hp
      obtain ⟨hc, h3⟩ := cond_F h'
      simp only [Bool.and_eq_true, lenR_eq] at hc
      obtain ⟨⟨c1, c2⟩, c3⟩ := hc
      have c1' : (σ.ev p.2).cells.length = z := by simpa [Nat.beq_eq] using c1
      have c2' : off + z ≤ xs.length := by simpa using c2
      obtain ⟨e1, e2⟩ := inv.ev p.2
      have hv := e1.cells (allR_iff.1 c3)
      have hvl : (a.eval p.2).cells.size = z := by have := hv.len; simp at this; omega
      have hcl : cells.size = xs.length := by have := hr.len; simpa using this
      have hfold := fold_cells off (a.eval p.2).cells cells (by omega)
      have hr' : RvL w G ((a.eval p.2).cells.zipIdx.foldl (fun cs (c, j) => cs.setIfInBounds (off + j) c) cells).toList (splice xs off (σ.ev p.2).cells) := by
        rw [hfold]; exact hr.splice hv off
      obtain ⟨cells', xs', q1, q2, q3, q4, q5⟩ := ih _ _ (fun i hi => hpl i (by simp [hi])) hr' (okL_splice hok (ok_cells e2) off) h3
      refine ⟨cells', xs', ?_, q2, q3, ?_, q5⟩
      · have hpp := hpl p.1 (by simp) _ hp
        simp only [List.map_cons, Instr.fill, hpp]
        rw [if_neg (by simp [hvl]; omega)]
        exact q1
      · rw [q4, splice_eq]; simp; omega
    · exact h'.elim

theorem build_sound (hT : TabOk T P) (inv : Inv T Φ σ a w G) (t : TypeId) (ps : Array (Nat × Operand)) (ho : o.op = .build t ps) (ht : t < T.n t) (h : buildVC T (T.row t) σ ps.toList K) : Out T Φ σ a K ((execOp a.eval o).run P w) := by
  obtain ⟨z, hz, hzc, hz1, hz2⟩ := zero_run (w := w) hT ht
  have hmap : (ps.map fun (p : Nat × Operand) => (p.1, a.eval p.2)).toList = ps.toList.map fun p => (p.1, a.eval p.2) := by simp
  have h0 : RvL w G z.cells.toList (mapR V.lit (T.row t).zero) := by rw [mapR_eq, ← hzc]; exact RvL_lits (by rw [hzc]; exact hz1)
  have h0' : V.okL σ.hasB σ.hasA (mapR V.lit (T.row t).zero) := by rw [mapR_eq]; exact okL_lits
  have fin : ∀ (cells' : Array Value) (xs' : List V), RvL w G cells'.toList xs' → Rv w G (.agg cells') (.agg xs') := fun cells' xs' hr =>
    .agg _ _ (by have := hr.len; simpa using this) (by have := hr.one; simpa using this) (fun i c x hc hx => hr.rel i c x (by simpa using hc) hx)
  unfold buildVC at h
  split at h
  · rename_i hkd
    obtain ⟨fs, u1, u2, u3⟩ := und_struct (hT t ht) hkd
    have hplaces : ∀ (l : List Field), (∀ f ∈ l, ∃ i, P.info? f.type = some i ∧ i.size = sizeB P f.type) → (l.mapM (fun f => (do pure (f.offset, ← sizeOf f.type) : Sem (Nat × Nat)))).run P w = .ok (l.map fun f => (f.offset, sizeB P f.type)) w := by
      intro l
      induction l with
      | nil => intro _; simp
      | cons f r ihr =>
        intro hl
        obtain ⟨i, hi, hsz⟩ := hl f (by simp)
        have := ihr (fun f hf => hl f (by simp [hf]))
        simp only [List.mapM_cons, Sem.run_bind, size_run hi, Result.andThen_ok, Sem.run_pure, this, List.map_cons, hsz]
    have hpl2 : (fs.mapM (fun f => (do pure (f.offset, ← sizeOf f.type) : Sem (Nat × Nat)))).run P w = .ok (fs.map fun f => (f.offset, sizeB P f.type)) w := by
      have := hplaces fs.toList (by simpa using u3)
      rw [Array.mapM_eq_mapM_toList]
      simp only [Sem.run_map, this, Result.andThen_ok]
      rw [← Array.toList_map, Array.toArray_toList]
    obtain ⟨cells', xs', q1, q2, q3, q4, q5⟩ := fill_run inv (place' := fun i => (fs.map fun f => (f.offset, sizeB P f.type))[i]?) ps.toList z.cells _ (by
      intro i _ q hq
      rw [nth_eq, u2, List.getElem?_map] at hq
      simp only [Array.getElem?_map]
      cases hf : fs.toList[i]? with
      | none => rw [hf] at hq; cases hq
      | some f =>
        rw [hf] at hq
        have : fs[i]? = some f := by simpa using hf
        rw [this]
        simpa using hq) h0 h0' h
    refine .plain inv (v' := .agg cells') ?_ q5 (fin _ _ q2) (by simpa only [V.ok] using q3)
    simp only [execOp, ho, Instr.build, Sem.run_bind, hz, Result.andThen_ok, und_run u1, hpl2, hmap]
    rw [q1]
    simp
  · rename_i hkd
    obtain ⟨hc, h3⟩ := cond_F h
    have he := blt hc
    obtain ⟨cells', xs', q1, q2, q3, q4, q5⟩ := fill_run inv (place' := fun i => some (i * (T.row (T.row t).elem).size, (T.row (T.row t).elem).size)) ps.toList z.cells _ (fun _ _ _ h => h) h0 h0' h3
    refine .plain inv (v' := .agg cells') ?_ q5 (fin _ _ q2) (by simpa only [V.ok] using q3)
    simp only [execOp, ho, Instr.build, Sem.run_bind, hz, Result.andThen_ok, und_run (und_array (hT t ht) hkd), size_run' hT he, hmap]
    rw [q1]
    simp
  · exact h.elim

theorem conv_sound (hT : TabOk T P) (inv : Inv T Φ σ a w G) (s t : TypeId) (x : Operand) (ho : o.op = .convert s t x) (h : convVC T s t (σ.ev x) K) : Out T Φ σ a K ((execOp a.eval o).run P w) := by
  obtain ⟨h1, h2⟩ := inv.ev x
  unfold convVC at h
  split at h
  · rename_i k0 k k1 n hb hs ht hx
    simp only [Bool.and_eq_true] at hb
    rw [hx] at h1
    have u1 := und_int (hT s (blt hb.1)) hs
    have u2 := und_int (hT t (blt hb.2)) ht
    exact .plain inv (by simp [execOp, ho, h1.lit_eq, convert, und_run u1, und_run u2, Conv.intToInt]) (arith_p h) (I_ok _ _ _ _) lit_triv
  · rename_i b hb hs ht hx
    simp only [Bool.and_eq_true] at hb
    rw [hx] at h1
    have u1 := und_str (hT s (blt hb.1)) hs
    have u2 := und_str (hT t (blt hb.2)) ht
    exact .plain inv (by simp [execOp, ho, h1.lit_eq, convert, und_run u1, und_run u2]) h (.lit _ rfl) lit_triv
  · exact h.elim

end
end Go.Ab
