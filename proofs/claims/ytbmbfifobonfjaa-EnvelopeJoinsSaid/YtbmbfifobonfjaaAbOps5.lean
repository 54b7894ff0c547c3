/-
  Slices that are made: literals, make, append; slice expressions.
-/
import Derived.Test.YtbmbfifobonfjaaAbOps4
set_option linter.unusedVariables false
set_option linter.unusedSimpArgs false
namespace Go.Ab
section
variable {T : Tab} {P : Program} {Φ : Fr} {σ : St} {a : Act} {w : World} {G : Gh} {K : VK} {o : Oper} {d : Nat}

theorem repR_len {α : Type} (n : Nat) (l : List α) : (repR n l).length = n * l.length := by
  induction n with
  | zero => show ([] : List α).length = _; simp
  | succ n ih =>
    have : repR (n + 1) l = appR l (repR n l) := rfl
    rw [this, appR_eq, List.length_append, ih, Nat.succ_mul]; omega
theorem repR_get {α : Type} (n : Nat) (l : List α) : ∀ j, j < n * l.length → (repR n l)[j]? = l[j % l.length]? := by
  induction n with
  | zero => intro j hj; simp at hj
  | succ n ih =>
    intro j hj
    have : repR (n + 1) l = appR l (repR n l) := rfl
    rw [this, appR_eq, List.getElem?_append]
    split
    · rename_i h; rw [Nat.mod_eq_of_lt h]
    · rename_i h
      rw [ih _ (by rw [Nat.succ_mul] at hj; omega), ← Nat.mod_eq_sub_mod (by omega)]
theorem repR_map {α β : Type} (f : α → β) (n : Nat) (l : List α) : repR n (l.map f) = (repR n l).map f := by
  induction n with
  | zero => rfl
  | succ n ih =>
    have h1 : repR (n + 1) l = appR l (repR n l) := rfl
    have h2 : repR (n + 1) (l.map f) = appR (l.map f) (repR n (l.map f)) := rfl
    rw [h1, h2, ih, appR_eq, appR_eq, List.map_append]
theorem repR_mem {α : Type} (n : Nat) (l : List α) {x : α} (h : x ∈ repR n l) : x ∈ l := by
  induction n with
  | zero => cases h
  | succ n ih =>
    have : repR (n + 1) l = appR l (repR n l) := rfl
    rw [this, appR_eq, List.mem_append] at h
    exact h.elim id ih
theorem zeros_eq (zero : Array Value) (n : Nat) (hz : 0 < zero.size) : ((Array.range (n * zero.size)).map (zero[· % zero.size]!)).toList = repR n zero.toList := by
  apply List.ext_getElem?
  intro j
  by_cases hj : j < n * zero.size
  · have hm : j % zero.size < zero.size := Nat.mod_lt _ hz
    rw [repR_get n zero.toList j (by simpa using hj)]
    simp [hj, hm]
  · rw [List.getElem?_eq_none (by simp; omega), List.getElem?_eq_none (by rw [repR_len]; simp; omega)]

/-- a new row of the call's own, under a number that is new or in a state that is new -/
theorem Inv.newArrG (inv : Inv T Φ σ a w G) {k gen : Nat} (hno : ∀ g, σ.hasA k g → g < gen) {kd : AK} (hkd : kd = .own ∨ kd = .ap) {cur : Array Value} {e : TypeId} (he : e < T.n e) {l : List V} {cap n0 : Nat} (hcap : l.length ≤ cap) (hm : cap ≤ maxLen) (hcs : cur.size = cap * (T.row e).size)
    (hz : ∀ x ∈ l, x.cells.length = (T.row e).size) (hp : pureL l) (hr : RvL w G (cur.toList.take (l.length * (T.row e).size)) (l.flatMap V.cells)) :
    ∃ G', Inv T Φ (σ.apps [.a k ⟨gen, kd, e, l⟩]) a ({ w with drawn := n0 }.alloc (.cells cur e)) G' ∧ G'.av k gen = .slice (some ⟨w.heap.size, 0, none⟩) l.length cap := by
  let av' : Nat → Nat → Value := fun k' g => if k' = k ∧ g = gen then .slice (some ⟨w.heap.size, 0, none⟩) l.length cap else G.av k' g
  let G' : Gh := { G with av := av', O := upd G.O w.heap.size (.ar k) }
  let w' : World := { w with drawn := n0 }.alloc (.cells cur e)
  have hold : ∀ b, b < w.heap.size → w'.heap[b]? = w.heap[b]? := fun b hb => heap_alloc_old { w with drawn := n0 } _ hb
  have hkp : Keep w w' G G' := ⟨fun b hb => by
    have hl := inv.tag b (by rw [hb]; simp)
    show upd G.O _ _ b = _; rw [upd_ne _ _ (by omega)]; exact hb, fun b hb => hold b (inv.tag b (by rw [hb]; simp))⟩
  have hav : av' k gen = .slice (some ⟨w.heap.size, 0, none⟩) l.length cap := by simp [av']
  have hown : OwnOk T w' G' k (G'.av k gen) e l := by
    refine .inr ⟨w.heap.size, cap, cur, hav, upd_same _ _ _, heap_alloc_new { w with drawn := n0 } _, hcap, hm, hcs, hz, hr.keep hkp (p := fun _ => False) (q := fun _ _ => False) ?_ (fun _ h => h.elim) (fun _ _ h => h.elim)⟩
    rw [okL_iff]
    intro u hu
    obtain ⟨j, hj⟩ := List.getElem?_of_mem hu
    exact ok_of_mem_flat hp hj
  refine ⟨G', ?_, hav⟩
  refine inv.setArr (w' := w') (k := k) (en := ⟨gen, kd, e, l⟩) (av' := av') (O' := upd G.O w.heap.size (.ar k)) (fun g hg => Nat.le_of_lt (hno g hg)) (fun k' g hg => ?_) hp ?_ ?_ ?_ (fun b hb _ => hold b hb) (by simp [w']) rfl rfl rfl
  · have : ¬ (k' = k ∧ g = gen) := by rintro ⟨rfl, rfl⟩; exact absurd (hno g hg) (by omega)
    simp [av', this]
  · unfold ArrOk
    rcases hkd with rfl | rfl
    · exact ⟨he, hown⟩
    · exact ⟨he, .inl hown⟩
  · intro b hb _; exact upd_ne _ _ (by have := inv.tag b hb; omega)
  · intro b
    by_cases e1 : b = w.heap.size
    · subst e1; exact .inr (.inr (.inl ⟨upd_same _ _ _, mine_new inv, by simp [w']⟩))
    · exact .inl (upd_ne _ _ e1)

theorem no_arr {k : Nat} (hk : σ.ar k = none) (gen : Nat) : ∀ g, σ.hasA k g → g < gen := fun g ⟨en, h, _⟩ => by rw [hk] at h; cases h

theorem Inv.newArr (inv : Inv T Φ σ a w G) {k : Nat} (hk : σ.ar k = none) {kd : AK} (hkd : kd = .own ∨ kd = .ap) {cur : Array Value} {e : TypeId} (he : e < T.n e) {l : List V} {cap n0 : Nat} (hcap : l.length ≤ cap) (hm : cap ≤ maxLen) (hcs : cur.size = cap * (T.row e).size)
    (hz : ∀ x ∈ l, x.cells.length = (T.row e).size) (hp : pureL l) (hr : RvL w G (cur.toList.take (l.length * (T.row e).size)) (l.flatMap V.cells)) :
    ∃ G', Inv T Φ (σ.apps [.a k ⟨0, kd, e, l⟩]) a ({ w with drawn := n0 }.alloc (.cells cur e)) G' ∧ G'.av k 0 = .slice (some ⟨w.heap.size, 0, none⟩) l.length cap :=
  inv.newArrG (no_arr hk 0) hkd he hcap hm hcs hz hp hr

theorem chunk_ok (agg : Bool) (z : Nat) : ∀ (n : Nat) (cs : List V), cs.length = n * z → (∀ x ∈ cs, x.atom = true) → (agg = false → z = 1) →
    (chunk agg z n cs).flatMap V.cells = cs ∧ (chunk agg z n cs).length = n ∧ (∀ x ∈ chunk agg z n cs, x.cells.length = z) ∧ (∀ (p : Nat → Prop) (q : Nat → Nat → Prop), V.okL p q cs → pureL (chunk agg z n cs)) := by
  intro n
  induction n with
  | zero =>
    intro cs h _ _
    have : cs = [] := List.eq_nil_of_length_eq_zero (by simpa using h)
    subst this
    exact ⟨rfl, rfl, fun x hx => (by cases hx), fun _ _ _ => (by show V.okL _ _ []; simp only [V.okL])⟩
  | succ n ih =>
    intro cs h hat hag
    rw [Nat.succ_mul] at h
    have hd : (cs.drop z).length = n * z := by rw [List.length_drop]; omega
    obtain ⟨i1, i2, i3, i4⟩ := ih (cs.drop z) hd (fun x hx => hat x (List.mem_of_mem_drop hx)) hag
    have heq : chunk agg z (n + 1) cs = chunk1 agg z cs :: chunk agg z n (dropR cs z) := rfl
    rw [heq, dropR_eq]
    cases agg with
    | true =>
      have hc1 : chunk1 true z cs = .agg (cs.take z) := by rw [← takeR_eq]; rfl
      rw [hc1]
      refine ⟨?_, by simp [i2], ?_, ?_⟩
      · rw [List.flatMap_cons, i1]; exact List.take_append_drop z cs
      · intro x hx
        rcases List.mem_cons.1 hx with rfl | hx
        · simp [V.cells]; omega
        · exact i3 x hx
      · intro p q hok
        refine okL_iff.2 fun x hx => ?_
        rcases List.mem_cons.1 hx with rfl | hx
        · simp only [V.ok]
          refine okL_iff.2 fun y hy => atom_pure (hat y (List.mem_of_mem_take hy)) (okL_iff.1 hok y (List.mem_of_mem_take hy))
        · exact okL_iff.1 (i4 p q (okL_iff.2 fun y hy => okL_iff.1 hok y (List.mem_of_mem_drop hy))) x hx
    | false =>
      have hz1 := hag rfl
      subst hz1
      match cs, h with
      | x :: r, h =>
        simp only [List.drop_succ_cons, List.drop_zero] at i1 i2 i3 i4 ⊢
        have hc1 : chunk1 false 1 (x :: r) = x := rfl
        rw [hc1]
        have hx1 := atom_cells (hat x (by simp))
        refine ⟨?_, by simp [i2], ?_, ?_⟩
        · rw [List.flatMap_cons, i1, hx1]; rfl
        · intro y hy
          rcases List.mem_cons.1 hy with rfl | hy
          · rw [hx1]; rfl
          · exact i3 y hy
        · intro p q hok
          refine okL_iff.2 fun y hy => ?_
          rcases List.mem_cons.1 hy with rfl | hy
          · exact atom_pure (hat y (by simp)) (okL_iff.1 hok y (by simp))
          · exact okL_iff.1 (i4 p q (okL_iff.2 fun y hy => okL_iff.1 hok y (by simp [hy]))) y hy

theorem row_size1 (hT : TabOk T P) {t : TypeId} (ht : t < T.n t) (h : (T.row t).agg = false) : (T.row t).size = 1 := by
  obtain ⟨i, h1, h2, h3, z, h4, h5, h6, h7, h8, h9⟩ := (hT t ht).info
  rw [← h7, h9 h]; rfl

theorem arr_plain {k : Nat} {u : Value} (hav : G.av k 0 = u) (h1 : u.oneCell' = true) : Rv w G u (.arr k 0) := by
  subst hav; exact .arr k 0 h1

theorem buildSlice_run (hT : TabOk T P) {t : TypeId} (ht : t < T.n t) (hkd : (T.row t).kd = .slice) (he : (T.row t).elem < T.n (T.row t).elem) {n : Nat} (hgt : ¬ (n * (T.row (T.row t).elem).size > 2 ^ 24)) {z : Value} (hz : (zeroValue (T.row t).elem).run P w = .ok z w) (parts : Array (Nat × Value)) {cells' : Array Value}
    (q1 : Instr.fill (fun i => some (i * (T.row (T.row t).elem).size, (T.row (T.row t).elem).size)) ((Array.range (n * (T.row (T.row t).elem).size)).map (z.cells[· % z.cells.size]!)) parts.toList = some cells') :
    (Instr.buildSlice t n parts).run P w = .ok (.slice (some ⟨w.heap.size, 0, none⟩) n n) (w.alloc (.cells cells' (T.row t).elem)) := by
  have hu := und_slice (hT t ht) hkd
  unfold Instr.buildSlice
  simp only [Sem.run_bind, und_run hu, Result.andThen_ok, size_run' hT he]
  rw [if_neg hgt]
  by_cases hn1 : n * (T.row (T.row t).elem).size = 0
  · have e0 : ∀ f : Nat → Value, (Array.range (n * (T.row (T.row t).elem).size)).map f = #[] := by rw [hn1]; intro f; exact Array.size_eq_zero_iff.1 (by simp)
    rw [e0] at q1
    have e1 : ∀ f : Nat → Value, (Array.range 0).map f = #[] := fun f => Array.size_eq_zero_iff.1 (by simp)
    simp only [hn1, if_true, Sem.run_bind, Sem.run_pure, Result.andThen_ok, e1, q1]
    simp [newRow, newObj, Sem.run]
  · simp only [hn1, if_false, Sem.run_bind, hz, Sem.run_pure, Result.andThen_ok]
    rw [q1]
    simp [newRow, newObj, Sem.run]

theorem buildSlice_sound (hT : TabOk T P) (inv : Inv T Φ σ a w G) (t : TypeId) (n : Nat) (ps : Array (Nat × Operand)) (ho : o.op = .buildSlice t n ps) (ht : t < T.n t) (h : buildSliceVC T (T.row t) σ d n ps.toList K) : Out T Φ σ a K ((execOp a.eval o).run P w) := by
  have hmap : (ps.map fun (p : Nat × Operand) => (p.1, a.eval p.2)).toList = ps.toList.map fun p => (p.1, a.eval p.2) := by simp
  unfold buildSliceVC at h
  split at h
  · rename_i hkd hd
    have hu := und_slice (hT t ht) hkd
    obtain ⟨hc, h2⟩ := cond_F h
    simp only [Bool.and_eq_true] at hc
    obtain ⟨⟨c2, c3⟩, c4⟩ := hc
    have he' := blt c2
    have hsz0 := blt c4
    have hn : n * (T.row (T.row t).elem).size ≤ 1000 := by simpa using c3
    obtain ⟨z, hz, hzc, hz1, hz2⟩ := zero_run (w := w) hT he'
    have hzs : z.cells.size = (T.row (T.row t).elem).size := by
      have : z.cells.toList.length = (T.row (T.row t).elem).size := by rw [hzc, hz2]
      simpa using this
    have hokz : V.okL σ.hasB σ.hasA (repR n (mapR V.lit (T.row (T.row t).elem).zero)) := by
      refine okL_iff.2 fun x hx => ?_
      have := repR_mem _ _ hx
      rw [mapR_eq, List.mem_map] at this
      obtain ⟨u, _, rfl⟩ := this
      exact lit_triv
    have hr0 : RvL w G ((Array.range (n * (T.row (T.row t).elem).size)).map (z.cells[· % z.cells.size]!)).toList (repR n (mapR V.lit (T.row (T.row t).elem).zero)) := by
      rw [← hzs, zeros_eq z.cells n (by omega), hzc, mapR_eq, repR_map]
      exact RvL_lits fun v hv => hz1 v (repR_mem _ _ hv)
    obtain ⟨cells', xs', q1, q2, q3, q4, q5⟩ := fill_run inv (place' := fun i => some (i * (T.row (T.row t).elem).size, (T.row (T.row t).elem).size)) ps.toList _ _ (fun _ _ _ h => h) hr0 hokz h2
    obtain ⟨c1, h3⟩ := cond_F q5
    have hlen : xs'.length = n * (T.row (T.row t).elem).size := by rw [q4, repR_len, mapR_eq, List.length_map, hz2]
    obtain ⟨k1, k2, k3, k4⟩ := chunk_ok (T.row (T.row t).elem).agg (T.row (T.row t).elem).size n xs' hlen (allR_iff.1 c1) (fun hf => row_size1 hT he' hf)
    have hcl : cells'.size = n * (T.row (T.row t).elem).size := by have := q2.len; simp at this; omega
    have hnle : n ≤ 1000 := Nat.le_trans (Nat.le_mul_of_pos_right n hsz0) hn
    obtain ⟨G', inv', hav⟩ := inv.newArr hd (.inl rfl) he' (cur := cells') (l := chunk (T.row (T.row t).elem).agg (T.row (T.row t).elem).size n xs') (cap := n) (n0 := w.drawn) (by omega) (by unfold maxLen; omega) hcl k3 (k4 _ _ q3)
      (by rw [k1, k2, ← hcl, List.take_of_length_le (by simp)]; exact q2)
    refine ⟨.slice (some ⟨w.heap.size, 0, none⟩) n n, w.alloc (.cells cells' (T.row t).elem), _, _, G', .inl ?_, h3, inv', arr_plain (by rw [hav, k2]) rfl, ?_⟩
    · have hgt : ¬ (n * (T.row (T.row t).elem).size > 2 ^ 24) := by omega
      rw [← hmap] at q1
      simp only [execOp, ho, Sem.run_bind, buildSlice_run hT ht hkd he' hgt hz _ q1, Result.andThen_ok, Sem.run_pure]
    · simp only [V.ok]
      exact ⟨_, upd_same _ _ _, Nat.le_refl _⟩
  · exact h.elim

theorem replicate_flat (n : Nat) (x : V) : (List.replicate n x).flatMap V.cells = repR n x.cells := by
  induction n with
  | zero => rfl
  | succ n ih =>
    have : repR (n + 1) x.cells = appR x.cells (repR n x.cells) := rfl
    rw [this, appR_eq, List.replicate_succ, List.flatMap_cons, ih]

theorem elem_cells (hT : TabOk T P) {e : TypeId} (he : e < T.n e) : (elemOfCells (T.row e) (mapR V.lit (T.row e).zero)).cells = (T.row e).zero.map V.lit ∧ (elemOfCells (T.row e) (mapR V.lit (T.row e).zero)).pure := by
  obtain ⟨i, h1, h2, h3, z, h4, h5, h6, h7, h8, h9⟩ := (hT e he).info
  rw [mapR_eq]
  unfold elemOfCells
  split
  · exact ⟨rfl, by simp only [V.pure, V.ok]; exact okL_lits⟩
  · rename_i hf
    rw [h9 hf]
    exact ⟨rfl, by simp only [List.map_cons, List.map_nil, V.pure, V.ok]⟩

theorem makeSlice_run (hT : TabOk T P) {t : TypeId} (ht : t < T.n t) (hkd : (T.row t).kd = .slice) (he : (T.row t).elem < T.n (T.row t).elem) {n : Nat} (hn : n * (T.row (T.row t).elem).bytes ≤ 140737488355328) (hn2 : n ≤ 140737488355328) {z : Value} (hz : (zeroValue (T.row t).elem).run P w = .ok z w) :
    ∃ cells' : Array Value, cells' = ((Array.range (n * (T.row (T.row t).elem).size)).map (z.cells[· % z.cells.size]!)) ∧
    (Instr.makeSlice t (.int .i64 n) (.int .i64 n)).run P w = .ok (.slice (some ⟨w.heap.size, 0, none⟩) n n) (w.alloc (.cells cells' (T.row t).elem)) := by
  have hu := und_slice (hT t ht) hkd
  obtain ⟨i, h1, h2, h3, _⟩ := (hT _ he).info
  refine ⟨_, rfl, ?_⟩
  have hwrap : IntKind.i64.wrap (n : Int) = n := IntWalk.i64_in _ (by omega)
  have hb : ((i.bytes : Int) * (n : Int)) ≤ 140737488355328 := by rw [h3, Int.mul_comm]; omega
  unfold Instr.makeSlice
  simp only [Sem.run_bind, und_run hu, Result.andThen_ok, asInt, asIntOf, Sem.run_pure, info_run h1, hwrap]
  have c1 : (decide ((n : Int) < 0) || decide ((i.bytes : Int) * (n : Int) > 2 ^ 48) || decide ((n : Int) < 0) || decide ((n : Int) > (n : Int))) = false := by
    simp only [Bool.or_eq_false_iff, decide_eq_false_iff_not]
    refine ⟨⟨⟨by omega, by omega⟩, by omega⟩, by omega⟩
  rw [if_neg (by rw [c1]; simp)]
  have c2 : ¬ (n * i.bytes > roomBytes) := by rw [h3]; simp only [roomBytes]; omega
  simp only [Int.toNat_natCast, askRoom, if_neg c2, Sem.run_pure, Result.andThen_ok, size_run' hT he, Sem.run_bind]
  by_cases hn1 : n * (T.row (T.row t).elem).size = 0
  · have e1 : ∀ f : Nat → Value, (Array.range 0).map f = #[] := fun f => Array.size_eq_zero_iff.1 (by simp)
    simp only [hn1, if_true, e1]
    simp [newRow, newObj, Sem.run]
  · simp only [hn1, if_false, Sem.run_bind, hz, Sem.run_pure, Result.andThen_ok]
    simp [newRow, newObj, Sem.run]

theorem makeSlice_sound (hT : TabOk T P) (inv : Inv T Φ σ a w G) (t : TypeId) (x y : Operand) (ho : o.op = .makeSlice t x y) (ht : t < T.n t) (h : makeSliceVC T (T.row t) σ d (σ.ev x) (σ.ev y) K) : Out T Φ σ a K ((execOp a.eval o).run P w) := by
  obtain ⟨x1, x2⟩ := inv.ev x
  obtain ⟨y1, y2⟩ := inv.ev y
  unfold makeSliceVC at h
  split at h
  · rename_i n c hkd hd hx hy
    rw [hx] at x1
    rw [hy] at y1
    obtain ⟨⟨n0, n1, n2, n3⟩, h2⟩ := need_p h
    obtain ⟨hc, h3⟩ := cond_F h2
    simp only [Bool.and_eq_true] at hc
    have he := blt hc.1
    have hs0 := blt hc.2
    subst n1
    obtain ⟨m, rfl⟩ := Int.eq_ofNat_of_zero_le n0
    rw [Int.toNat_natCast] at h3
    obtain ⟨z, hz, hzc, hz1, hz2⟩ := zero_run (w := w) hT he
    have hzs : z.cells.size = (T.row (T.row t).elem).size := by
      have : z.cells.toList.length = (T.row (T.row t).elem).size := by rw [hzc, hz2]
      simpa using this
    obtain ⟨cells', hc', hrun⟩ := makeSlice_run (w := w) hT ht hkd he (n := m) (by omega) (by omega) hz
    obtain ⟨q1, q2⟩ := elem_cells hT he
    have hcl : cells'.size = m * (T.row (T.row t).elem).size := by rw [hc']; simp
    have hr0 : RvL w G cells'.toList (repR m ((T.row (T.row t).elem).zero.map V.lit)) := by
      rw [hc', ← hzs, zeros_eq z.cells m (by omega), hzc, repR_map]
      exact RvL_lits fun v hv => hz1 v (repR_mem _ _ hv)
    obtain ⟨G', inv', hav⟩ := inv.newArr hd (.inl rfl) he (cur := cells') (l := List.replicate m (elemOfCells (T.row (T.row t).elem) (mapR V.lit (T.row (T.row t).elem).zero))) (cap := m) (n0 := w.drawn) (by simp) (by unfold maxLen; omega) hcl
      (by intro u hu; obtain ⟨_, rfl⟩ := List.mem_replicate.1 hu; rw [q1]; simpa using hz2)
      (okL_iff.2 fun u hu => by obtain ⟨_, rfl⟩ := List.mem_replicate.1 hu; exact q2)
      (by rw [replicate_flat, q1, List.length_replicate, ← hcl, List.take_of_length_le (by simp)]; exact hr0)
    refine ⟨.slice (some ⟨w.heap.size, 0, none⟩) m m, w.alloc (.cells cells' (T.row t).elem), _, _, G', .inl ?_, h3, inv', arr_plain (by rw [hav, List.length_replicate]) rfl, ?_⟩
    · simp only [execOp, ho, x1.lit_eq, y1.lit_eq, Sem.run_bind, hrun, Result.andThen_ok, Sem.run_pure]
    · simp only [V.ok]
      exact ⟨_, upd_same _ _ _, Nat.le_refl _⟩
  · exact h.elim

end
end Go.Ab
