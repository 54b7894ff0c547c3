/-
  The operations that look at memory: variables, addresses, loads, stores.
-/
import Derived.Test.YtbmbfifobonfjaaAbInv
set_option linter.unusedVariables false
set_option linter.unusedSimpArgs false
namespace Go.Ab
section
variable {T : Tab} {P : Program} {Φ : Fr} {σ : St} {a : Act} {w : World} {G : Gh} {K : VK} {o : Oper} {d : Nat}

theorem RvL.append {vs us : List Value} {xs ys : List V} (h : RvL w G vs xs) (h' : RvL w G us ys) : RvL w G (vs ++ us) (xs ++ ys) := by
  refine ⟨by simp [h.len, h'.len], ?_, ?_⟩
  · intro v hv
    rcases List.mem_append.1 hv with hv | hv
    · exact h.one v hv
    · exact h'.one v hv
  · intro i v x hv hx
    have hl := h.len
    rw [List.getElem?_append] at hv hx
    by_cases hi : i < vs.length
    · rw [if_pos hi] at hv
      rw [if_pos (by omega)] at hx
      exact h.rel i v x hv hx
    · rw [if_neg hi] at hv
      rw [if_neg (by omega), ← hl] at hx
      exact h'.rel _ v x hv hx
theorem RvL.take {vs : List Value} {xs : List V} (h : RvL w G vs xs) (n : Nat) : RvL w G (vs.take n) (xs.take n) := by
  refine ⟨by simp [h.len], fun v hv => h.one v (List.mem_of_mem_take hv), fun i v x hv hx => ?_⟩
  rw [List.getElem?_take] at hv hx
  split at hv
  · rename_i hi; rw [if_pos hi] at hx; exact h.rel i v x hv hx
  · cases hv
theorem RvL.drop {vs : List Value} {xs : List V} (h : RvL w G vs xs) (n : Nat) : RvL w G (vs.drop n) (xs.drop n) := by
  refine ⟨by simp [h.len], fun v hv => h.one v (List.mem_of_mem_drop hv), fun i v x hv hx => ?_⟩
  rw [List.getElem?_drop] at hv hx
  exact h.rel _ v x hv hx
theorem RvL.splice {vs us : List Value} {xs ys : List V} (h : RvL w G vs xs) (h' : RvL w G us ys) (off : Nat) : RvL w G (vs.take off ++ us ++ vs.drop (off + us.length)) (Ab.splice xs off ys) := by
  rw [splice_eq, List.append_assoc, h'.len]
  exact (h.take off).append (h'.append (h.drop _))
theorem okL_splice {p : Nat → Prop} {q : Nat → Nat → Prop} {xs ys : List V} (h : V.okL p q xs) (h' : V.okL p q ys) (off : Nat) : V.okL p q (splice xs off ys) := by
  rw [splice_eq, okL_iff]
  intro x hx
  rcases List.mem_append.1 hx with hx | hx
  · exact okL_iff.1 h x (List.mem_of_mem_take hx)
  · rcases List.mem_append.1 hx with hx | hx
    · exact okL_iff.1 h' x hx
    · exact okL_iff.1 h x (List.mem_of_mem_drop hx)

theorem RvL_lits {vs : List Value} (h : ∀ v ∈ vs, v.oneCell' = true) : RvL w G vs (vs.map .lit) := by
  refine ⟨by simp, h, fun i v x hv hx => ?_⟩
  rw [List.getElem?_map, hv] at hx
  simp at hx
  subst hx
  exact .lit v (h v (List.mem_of_getElem? hv))
theorem okL_lits {p : Nat → Prop} {q : Nat → Nat → Prop} {vs : List Value} : V.okL p q (vs.map .lit) := by
  rw [okL_iff]
  intro x hx
  obtain ⟨v, _, rfl⟩ := List.mem_map.1 hx
  exact lit_triv

theorem newBox_sound (inv : Inv T Φ σ a w G) {c : Array Value} {t : TypeId} {cs : List V} (hc : (∀ y ∈ cs, y.one = true) → RvL w G c.toList cs) (hok : V.okL σ.hasB σ.hasA cs) (h : newBox σ d cs K) {res : Result Next}
    (hr : res = .ok (.value (.pointer (some ⟨w.heap.size, 0, none⟩))) (w.alloc (.cells c t))) : Out T Φ σ a K res := by
  unfold newBox at h
  split at h
  · rename_i hd
    rw [forceL_eq] at h
    obtain ⟨h1, h⟩ := cond_F h
    have hc := hc (allR_iff.1 h1)
    refine ⟨_, _, _, _, _, .inl hr, h, inv.newBox hd (t := t) hc hok, ?_, ?_⟩
    · have := Rv.box (w := w.alloc (.cells c t)) (G := { G with β := upd G.β d w.heap.size, O := upd G.O w.heap.size (.bx d) }) d 0
      simp only [upd_same] at this
      exact this
    · simp only [V.ok]
      exact ⟨cs, upd_same _ _ _⟩
  · exact h.elim

theorem box_sound (inv : Inv T Φ σ a w G) (t : TypeId) (x : Operand) (ho : o.op = .box t x) (h : newBox σ d (σ.ev x).cells K) : Out T Φ σ a K ((execOp a.eval o).run P w) := by
  obtain ⟨h1, h2⟩ := inv.ev x
  exact newBox_sound inv (t := t) (c := (a.eval x).cells) (fun hh => h1.cells hh) (ok_cells h2) h (by simp [execOp, ho, Instr.box, newVar, newRow, newObj, Sem.run])

theorem zero_run (hT : TabOk T P) {t : TypeId} (ht : t < T.n t) : ∃ z, (zeroValue t).run P w = .ok z w ∧ z.cells.toList = (T.row t).zero ∧ (∀ c ∈ (T.row t).zero, c.oneCell' = true) ∧ (T.row t).zero.length = (T.row t).size := by
  obtain ⟨i, h1, h2, h3, z, h4, h5, h6, h7, _⟩ := (hT t ht).info
  exact ⟨z, by simp [zeroValue, typeInfo, h1, h4], h5, h6, h7⟩

theorem alloc_sound (hT : TabOk T P) (inv : Inv T Φ σ a w G) (t : TypeId) (ho : o.op = .alloc t) (ht : t < T.n t) (h : newBox σ d (mapR .lit (T.row t).zero) K) : Out T Φ σ a K ((execOp a.eval o).run P w) := by
  obtain ⟨z, hz, hc, h1, _⟩ := zero_run (w := w) hT ht
  rw [mapR_eq, ← hc] at h
  exact newBox_sound inv (t := t) (c := z.cells) (fun _ => RvL_lits (by rw [hc]; exact h1)) okL_lits h (by simp [execOp, ho, Instr.alloc, hz, newVar, newRow, newObj, Sem.run])

theorem und_struct {t : TypeId} {r : Row} (h : RowOk P t r) (hk : r.kd = .struct) : ∃ fs, P.underlying t = some (.struct fs) ∧ r.flds = fs.toList.map (fun f => (f.offset, sizeB P f.type, kdOf (P.underlying f.type), f.type)) ∧ (∀ f ∈ fs, ∃ i, P.info? f.type = some i ∧ i.size = sizeB P f.type) := by
  obtain ⟨dd, h1, h2, _, _, _, h6⟩ := h.und
  rw [hk] at h2
  cases dd <;> simp [kdOf] at h2
  exact ⟨_, h1, (h6 _ rfl).1, (h6 _ rfl).2⟩
theorem und_slice {t : TypeId} {r : Row} (h : RowOk P t r) (hk : r.kd = .slice) : P.underlying t = some (.slice r.elem) := by
  obtain ⟨dd, h1, h2, _, h4, _, _⟩ := h.und
  rw [hk] at h2
  cases dd <;> simp [kdOf] at h2
  rw [h4 _ rfl]; exact h1
theorem und_array {t : TypeId} {r : Row} (h : RowOk P t r) (hk : r.kd = .array) : P.underlying t = some (.array r.alen r.elem) := by
  obtain ⟨dd, h1, h2, _, _, h5, _⟩ := h.und
  rw [hk] at h2
  cases dd <;> simp [kdOf] at h2
  rw [(h5 _ _ rfl).1, (h5 _ _ rfl).2]; exact h1
theorem und_str {t : TypeId} {r : Row} (h : RowOk P t r) (hk : r.kd = .str) : P.underlying t = some .string := by
  obtain ⟨dd, h1, h2, _⟩ := h.und
  rw [hk] at h2
  cases dd <;> simp [kdOf] at h2
  exact h1
theorem und_int {t : TypeId} {r : Row} (h : RowOk P t r) {k : IntKind} (hk : r.kd = .int k) : P.underlying t = some (.int k) := by
  obtain ⟨dd, h1, h2, _⟩ := h.und
  rw [hk] at h2
  cases dd <;> simp [kdOf] at h2
  subst h2
  exact h1
theorem size_run' (hT : TabOk T P) {t : TypeId} (ht : t < T.n t) (w : World) : (sizeOf t).run P w = .ok (T.row t).size w := by
  obtain ⟨i, h1, h2, _⟩ := (hT t ht).info
  rw [size_run h1, h2]
theorem isAgg_run (hT : TabOk T P) {t : TypeId} (ht : t < T.n t) (w : World) : (isAgg t).run P w = .ok (T.row t).agg w := by
  obtain ⟨dd, h1, _, h3, _⟩ := (hT t ht).und
  rw [h3]
  cases dd <;> simp [isAgg, und_run h1, aggB]

theorem fieldAddr_run (hT : TabOk T P) {s : TypeId} (hs : s < T.n s) {f : Nat} {off z : Nat} {kd : Kd × TypeId} (hf : (T.row s).flds[f]? = some (off, z, kd)) (hz : z ≠ 0) (hkd : (T.row s).kd = .struct) (ad : Addr) :
    (Instr.fieldAt s (.pointer (some ad)) f).run P w = .ok (.pointer (some (ad.add off))) w := by
  obtain ⟨fs, h1, h2, h3⟩ := und_struct (hT s hs) hkd
  rw [h2, List.getElem?_map] at hf
  cases hfs : fs.toList[f]? with
  | none => rw [hfs] at hf; cases hf
  | some fd =>
    rw [hfs] at hf
    simp only [Option.map_some, Option.some.injEq, Prod.mk.injEq] at hf
    obtain ⟨e1, e2, _⟩ := hf
    have hfa : fs[f]? = some fd := by simpa using hfs
    obtain ⟨i, hi, hsz⟩ := h3 fd (by have := List.mem_of_getElem? hfs; simpa using this)
    have hne : i.size ≠ 0 := by rw [hsz, e2]; exact hz
    simp [Instr.fieldAt, und_run h1, hfa, Instr.sureAddr, fieldPlace, size_run hi, hne, e1]

theorem fieldAddr_sound (hT : TabOk T P) (inv : Inv T Φ σ a w G) (s : TypeId) (x : Operand) (f : Nat) (ho : o.op = .fieldAddr s x f) (hs : s < T.n s) (h : fieldAddrVC (T.row s) (σ.ev x) f K) : Out T Φ σ a K ((execOp a.eval o).run P w) := by
  obtain ⟨h1, h2⟩ := inv.ev x
  unfold fieldAddrVC at h
  split at h
  · rename_i off z kd hkd hf
    rw [nth_eq] at hf
    cases hz : Nat.beq z 0 with
    | true => rw [hz] at h; exact h.elim
    | false =>
      rw [hz] at h
      have hz' : z ≠ 0 := by rintro rfl; simp at hz
      have hrun : ∀ ad, a.eval x = .pointer (some ad) → (execOp a.eval o).run P w = .ok (.value (.pointer (some (ad.add off)))) w := fun ad he => by
        simp [execOp, ho, he, fieldAddr_run hT hs hf hz' hkd ad]
      simp only [cond_false] at h
      split at h
      · rename_i i of hx
        rw [hx] at h1 h2
        refine .plain inv (hrun _ h1.box_eq) h ?_ (by simpa only [V.ok] using h2)
        rw [add_lit']
        exact .box i (of + off)
      · rename_i cs hx
        rw [hx] at h1 h2
        obtain ⟨ad, cc, he, hf1, hc, hr⟩ := h1.fp_inv
        rw [forceL_eq, dropR_eq] at h
        refine .plain inv (hrun ad he) h ?_ ?_
        · refine .fp _ _ (fun j => cc (off + j)) (fun hne => ?_) (fun j y hy => ?_) (fun j y hy => ?_)
          · rw [add_block]; exact hf1 (by rintro rfl; simp at hne)
          · rw [List.getElem?_drop] at hy
            rw [add_add']; exact hc _ y hy
          · rw [List.getElem?_drop] at hy
            exact hr _ y hy
        · simp only [V.ok] at h2 ⊢
          rw [okL_iff] at h2 ⊢
          exact fun y hy => h2 y (List.mem_of_mem_drop hy)
      · rename_i k g sz i of hx
        rw [hx] at h1 h2
        obtain ⟨ad, n, c, he, hav⟩ := h1.ae_inv
        refine .plain inv (hrun _ he) h ?_ (by simpa only [V.ok] using h2)
        rw [add_add', Nat.add_assoc]
        exact .ae k g sz i (of + off) ad n c hav
      · exact h.elim
  · exact h.elim

/-- what lies from an address on -/
structure Here (w : World) (G : Gh) (ad : Addr) (xs : List V) : Prop where
  out : ∃ cc : Nat → Value, At w ad cc xs ∧ ∀ (j : Nat) y, xs[j]? = some y → Rv w G (cc j) y

theorem pick_run (hT : TabOk T P) {t : TypeId} (ht : t < T.n t) {ad : Addr} {xs : List V} (hh : Here w G ad xs) (hok : V.okL σ.hasB σ.hasA xs) (h : pickK (T.row t) xs K) :
    ∃ v' v, (loadVar t ad).run P w = .ok v' w ∧ K v [] ∧ Rv w G v' v ∧ v.ok σ.hasB σ.hasA := by
  obtain ⟨cc, hc, hr⟩ := hh.out
  unfold pickK at h
  split at h
  · rename_i hagg
    rw [forceL_eq, takeR_eq, lenR_eq] at h
    obtain ⟨h1, h⟩ := cond_F h
    have hlen : (xs.take (T.row t).size).length = (T.row t).size := by simpa [Nat.beq_eq] using h1
    have hle : (T.row t).size ≤ xs.length := by rw [List.length_take] at hlen; omega
    have hload := run_loadCells (P := P) w ad (T.row t).size cc (fun j hj => (hc j _ (List.getElem?_eq_getElem (by omega))).1)
    refine ⟨.agg ((List.range (T.row t).size).map cc).toArray, _, ?_, h, .agg _ _ ?_ ?_ ?_, ?_⟩
    · simp [loadVar, isAgg_run hT ht, hagg, size_run' hT ht, hload]
    · simp [hle]
    · intro c hcm
      simp only [List.mem_toArray, List.mem_map, List.mem_range] at hcm
      obtain ⟨j, hj, rfl⟩ := hcm
      exact (hc j _ (List.getElem?_eq_getElem (by omega))).2
    · intro i c x hci hx
      rw [List.getElem?_take] at hx
      split at hx
      · rename_i hi
        simp [hi] at hci
        subst hci
        exact hr i x hx
      · cases hx
    · simp only [V.ok]
      rw [okL_iff] at hok ⊢
      exact fun y hy => hok y (List.mem_of_mem_take hy)
  · rename_i hagg
    split at h
    · rename_i x r
      rw [force_eq] at h
      have h0 := hc 0 x (by simp)
      rw [add_zero'] at h0
      exact ⟨cc 0, x, by simp [loadVar, isAgg_run hT ht, hagg, run_load, h0.1], h, hr 0 x (by simp), okL_iff.1 hok x (by simp)⟩
    · exact h.elim

theorem flat_get {l : List V} {sz : Nat} (hz : ∀ x ∈ l, x.cells.length = sz) {i : Nat} {x : V} (hi : l[i]? = some x) (j : Nat) (hj : j < sz) : (l.flatMap V.cells)[i * sz + j]? = x.cells[j]? := by
  induction l generalizing i with
  | nil => simp at hi
  | cons y r ih =>
    have hy : y.cells.length = sz := hz y (by simp)
    cases i with
    | zero =>
      simp at hi
      subst hi
      simp only [List.flatMap_cons, Nat.zero_mul, Nat.zero_add]
      rw [List.getElem?_append_left (by omega)]
    | succ i =>
      simp only [List.getElem?_cons_succ] at hi
      simp only [List.flatMap_cons]
      rw [List.getElem?_append_right (by rw [hy, Nat.succ_mul]; omega), hy, show (i + 1) * sz + j - sz = i * sz + j by rw [Nat.succ_mul]; omega]
      exact ih (fun x hx => hz x (by simp [hx])) hi

theorem flat_len {l : List V} {sz : Nat} (hz : ∀ x ∈ l, x.cells.length = sz) : (l.flatMap V.cells).length = l.length * sz := by
  induction l with
  | nil => simp
  | cons y r ih =>
    simp only [List.flatMap_cons, List.length_append, List.length_cons, Nat.succ_mul]
    rw [ih (fun x hx => hz x (by simp [hx])), hz y (by simp)]
    omega

/-- an element of a row of cells -/
theorem Here.elem {l : List V} {sz : Nat} (hz : ∀ x ∈ l, x.cells.length = sz) {ad : Addr} (hh : Here w G ad (l.flatMap V.cells)) {i : Nat} {x : V} (hi : l[i]? = some x) (off : Nat) : Here w G (ad.add (i * sz + off)) (x.cells.drop off) := by
  obtain ⟨cc, hc, hr⟩ := hh.out
  have key : ∀ (j : Nat) (y : V), (x.cells.drop off)[j]? = some y → (l.flatMap V.cells)[i * sz + off + j]? = some y := by
    intro j y hy
    rw [List.getElem?_drop] at hy
    have hlt : off + j < sz := by
      have := (List.getElem?_eq_some_iff.1 hy).1
      rw [hz x (List.mem_of_getElem? hi)] at this
      exact this
    rw [Nat.add_assoc, flat_get hz hi _ hlt]
    exact hy
  refine ⟨fun j => cc (i * sz + off + j), fun j y hy => ?_, fun j y hy => hr _ y (key j y hy)⟩
  rw [add_add']
  exact hc _ y (key j y hy)

theorem RvL.here {g : Nat} {cur : Array Value} {t : TypeId} {fr : Nat × Nat} (hw : w.heap[g]? = some (.cells cur t fr)) {n : Nat} {xs : List V} (h : RvL w G (cur.toList.take n) xs) : Here w G ⟨g, 0, none⟩ xs := by
  refine ⟨fun j => cur.toList.getD j undef, fun j y hy => ?_, fun j y hy => ?_⟩
  · have hj : j < (cur.toList.take n).length := by rw [h.len]; exact (List.getElem?_eq_some_iff.1 hy).1
    have hj' : j < cur.toList.length := by rw [List.length_take] at hj; omega
    have hm : (cur.toList.take n)[j] = cur.toList[j] := List.getElem_take
    rw [add_lit', Nat.zero_add, cell_of_row w g j cur t fr hw]
    have hd : cur.toList.getD j undef = cur.toList[j] := by simp [List.getD, List.getElem?_eq_getElem hj']
    show cur[j]? = some (cur.toList.getD j undef) ∧ (cur.toList.getD j undef).oneCell' = true
    rw [hd]
    refine ⟨by simp, ?_⟩
    rw [← hm]
    exact h.one _ (List.getElem_mem hj)
  · have hj : j < (cur.toList.take n).length := by rw [h.len]; exact (List.getElem?_eq_some_iff.1 hy).1
    have hj' : j < cur.toList.length := by rw [List.length_take] at hj; omega
    have hm : (cur.toList.take n)[j] = cur.toList[j] := List.getElem_take
    have hd : cur.toList.getD j undef = cur.toList[j] := by simp [List.getD, List.getElem?_eq_getElem hj']
    show Rv w G (cur.toList.getD j undef) y
    rw [hd, ← hm]
    exact h.rel j _ y (List.getElem?_eq_getElem hj) hy

/-- what can be read of an array -/
theorem ArrOk.reads {k : Nat} {en : AE} (h : ArrOk T w G k en) (hd : en.kind ≠ .dead) : (G.av k en.gen = .slice none 0 0 ∧ en.l = []) ∨
    ∃ ad c sz, G.av k en.gen = .slice (some ad) en.l.length c ∧ en.l.length ≤ c ∧ c ≤ maxLen ∧ (∀ x ∈ en.l, x.cells.length = sz) ∧ Here w G ad (en.l.flatMap V.cells) := by
  have own : ∀ {u ty l}, OwnOk T w G k u ty l → (u = .slice none 0 0 ∧ l = []) ∨ ∃ ad c sz, u = .slice (some ad) l.length c ∧ l.length ≤ c ∧ c ≤ maxLen ∧ (∀ x ∈ l, x.cells.length = sz) ∧ Here w G ad (l.flatMap V.cells) := by
    intro u ty l h
    rcases h with h | ⟨b, cap, cur, h1, h2, h3, h4, h5, h6, h7, h8⟩
    · exact .inl h
    · exact .inr ⟨⟨b, 0, none⟩, cap, _, h1, h4, h5, h7, h8.here h3⟩
  have sl : ∀ {u l}, Rv w G u (.sl l) → (u = .slice none 0 0 ∧ l = []) ∨ ∃ ad c sz, u = .slice (some ad) l.length c ∧ l.length ≤ c ∧ c ≤ maxLen ∧ (∀ x ∈ l, x.cells.length = sz) ∧ Here w G ad (l.flatMap V.cells) := by
    intro u l h
    rcases h.sl_inv with h | ⟨ad, c, sz, cc, h1, h2, h3, h4, h5, h6, h7⟩
    · exact .inl h
    · exact .inr ⟨ad, c, sz, h1, h2, h3, h5, ⟨cc, h6, h7⟩⟩
  unfold ArrOk at h
  split at h
  · rename_i hk; exact absurd hk hd
  · exact sl h
  · exact own h.2
  · rcases h.2 with h | h
    · exact own h
    · exact sl h.1.cap_sl

theorem load_run (hT : TabOk T P) (inv : Inv T Φ σ a w G) (t : TypeId) (x : Operand) (ht : t < T.n t) (h : loadVC (T.row t) σ (σ.ev x) K) : ∃ ad v' v, a.eval x = .pointer (some ad) ∧ (loadVar t ad).run P w = .ok v' w ∧ K v [] ∧ Rv w G v' v ∧ v.ok σ.hasB σ.hasA := by
  obtain ⟨h1, h2⟩ := inv.ev x
  have fin : ∀ (ad : Addr) (xs : List V), a.eval x = .pointer (some ad) → Here w G ad xs → V.okL σ.hasB σ.hasA xs → pickK (T.row t) xs K → ∃ ad v' v, a.eval x = .pointer (some ad) ∧ (loadVar t ad).run P w = .ok v' w ∧ K v [] ∧ Rv w G v' v ∧ v.ok σ.hasB σ.hasA := by
    intro ad xs he hh hok hp
    obtain ⟨v', v, hrun, hk, hv, hvo⟩ := pick_run hT ht hh hok hp
    exact ⟨ad, v', v, he, hrun, hk, hv, hvo⟩
  unfold loadVC at h
  split at h
  · rename_i i off hx
    rw [hx] at h1
    split at h
    · rename_i cs hcs
      obtain ⟨c, tt, g1, g2, g3⟩ := inv.box i cs hcs
      rw [dropR_eq] at h
      have hh : Here w G ⟨G.β i, 0, none⟩ cs := RvL.here g1 (n := c.toList.length) (by rw [List.take_length]; exact g2)
      refine fin _ _ h1.box_eq ?_ ?_ h
      · obtain ⟨cc, q1, q2⟩ := hh.out
        refine ⟨fun j => cc (off + j), fun j y hy => ?_, fun j y hy => ?_⟩
        · rw [List.getElem?_drop] at hy
          have := q1 _ y hy
          rw [add_lit', Nat.zero_add] at this
          rw [add_lit']
          exact this
        · rw [List.getElem?_drop] at hy
          exact q2 _ y hy
      · have := inv.wfB i cs hcs
        rw [okL_iff] at this ⊢
        exact fun y hy => this y (List.mem_of_mem_drop hy)
    · exact h.elim
  · rename_i cs hx
    rw [hx] at h1 h2
    obtain ⟨ad, cc, he, _, hc, hr⟩ := h1.fp_inv
    refine fin ad cs he ⟨cc, hc, hr⟩ ?_ h
    simp only [V.ok] at h2
    exact V.okL.imp (fun _ h => h.elim) (fun _ _ h => h.elim) _ h2
  · rename_i k g sz i off hx
    rw [hx] at h1
    split at h
    · rename_i en hen
      obtain ⟨⟨hg, hd⟩, h3⟩ := need_p h
      obtain ⟨y, hy, h4⟩ := idx_p h3
      obtain ⟨hs, h5⟩ := cond_F h4
      clear h h3 h4
      rw [lenR_eq] at hs
      have hs' : y.cells.length = sz := by simpa [Nat.beq_eq] using hs
      obtain ⟨ad, n, c, he, hav⟩ := h1.ae_inv
      subst hg
      rcases (inv.arr k en hen).reads hd with ⟨e1, e2⟩ | ⟨ad', c', sz', e1, e2, e3, e4, e5⟩
      · rw [e2] at hy; simp at hy
      · rw [hav] at e1
        cases e1
        have : sz' = sz := by rw [← e4 y (List.mem_of_getElem? hy)]; exact hs'
        subst this
        rw [dropR_eq] at h5
        refine fin _ _ he (e5.elem e4 hy off) ?_ h5
        have hp := okL_iff.1 (inv.wfA k en hen) y (List.mem_of_getElem? hy)
        have := ok_cells hp
        rw [okL_iff] at this ⊢
        exact fun z hz => V.pure.ok (this z (List.mem_of_mem_drop hz)) _ _
    · exact h.elim
  · exact h.elim

theorem load_sound (hT : TabOk T P) (inv : Inv T Φ σ a w G) (t : TypeId) (x : Operand) (ho : o.op = .load t x) (ht : t < T.n t) (h : loadVC (T.row t) σ (σ.ev x) K) : Out T Φ σ a K ((execOp a.eval o).run P w) := by
  obtain ⟨ad, v', v, he, hrun, hk, hv, hvo⟩ := load_run hT inv t x ht h
  exact .plain inv (by simp [execOp, ho, he, Instr.loadAt, Instr.sureAddr, hrun]) hk hv hvo

end
end Go.Ab
