/-
  Regions that draw their order.
-/
import Derived.Test.YtbmbfifobonfjaaAbSwap3
set_option linter.unusedVariables false
set_option linter.unusedSimpArgs false
namespace Go.Ab

def Real (T : Tab) (Φ : Fr) (σ : St) : Prop := ∃ a w G, Inv T Φ σ a w G

section
variable {T : Tab} {P : Program} {Φ : Fr} {σ : St} {a : Act} {w w' : World} {G G' : Gh} {o : Oper} {d : Nat} {v : V} {ms : List Mod} {ops : List Oper} {K : St → Prop}

theorem Real.wf (h : Real T Φ σ) (x : Operand) : (σ.ev x).ok σ.hasB σ.hasA := by
  obtain ⟨a, w, G, inv⟩ := h
  exact (inv.ev x).2

theorem oper_real (hT : TabOk T P) (hr : Real T Φ σ) (hd : ∀ d, o.dst = some d → d < Φ.n) (h : operVC T P true σ d o.op (Is v ms)) : Real T Φ (σ.put o.dst v ms) := by
  obtain ⟨a, w, G, inv⟩ := hr
  unfold operVC at h
  split at h
  · rename_i f as ts ho
    rw [forceL_eq, mapR_eq] at h
    obtain ⟨hc, hcalls⟩ := call_sound inv as h
    obtain ⟨e, w', fr, ⟨v', rfl, v1, ms1, G', ⟨rfl, rfl⟩, inv', hv, hvo⟩, _⟩ := hcalls []
    exact ⟨_, _, _, Inv.put' _ inv' hd hv hvo⟩
  · obtain ⟨v', w1, v1, ms1, G', hr, ⟨rfl, rfl⟩, inv', hv, hvo⟩ := op_sound hT inv o h
    exact ⟨_, _, _, Inv.put' _ inv' hd hv hvo⟩

theorem eff_real (hT : TabOk T P) (hr : Real T Φ σ) (h : Eff T P Φ.n ops o σ v ms) : Real T Φ (σ.put o.dst v ms) := by
  unfold Eff at h
  obtain ⟨h1, h2⟩ := h
  split at h2
  · exact oper_real hT hr h1 h2
  · obtain ⟨s, q1, q2⟩ := h2
    rcases q2 with ⟨q2, q3⟩ | ⟨q2, rfl, rfl⟩
    · exact oper_real hT hr h1 q3
    · obtain ⟨a, w, G, inv⟩ := hr
      exact ⟨_, _, _, Inv.put' [] inv h1 (undef_rv w G) (by simp only [V.ok, V.okL])⟩

/-- operations by their numbers -/
def RunI (T : Tab) (P : Program) (n : Nat) (ops : List Oper) : List Nat → St → (St → Prop) → Prop
  | [], σ, K => K σ
  | i :: r, σ, K => ∃ o v ms, ops[i]? = some o ∧ Eff T P n ops o σ v ms ∧ RunI T P n ops r (σ.put o.dst v ms) K

def Compat (cl : List (Nat × Nat)) (ops : List Oper) (j i : Nat) : Prop := ∀ p o, ops[j]? = some p → ops[i]? = some o → Oper.apart ops.toArray p o = true ∧ (clash (cls p.op) (cls o.op) = false ∨ loadSep cl p.op o.op = true)

theorem front (hT : TabOk T P) {cl : List (Nat × Nat)} (hcl : ∀ o ∈ ops, claimOk cl o = true) {i : Nat} {l2 : List Nat} : ∀ (l1 : List Nat) (σ : St), Real T Φ σ → Good cl σ → (∀ j ∈ l1, Compat cl ops j i) → RunI T P Φ.n ops (l1 ++ i :: l2) σ K →
    ∃ o v ms, ops[i]? = some o ∧ Eff T P Φ.n ops o σ v ms ∧ RunI T P Φ.n ops (l1 ++ l2) (σ.put o.dst v ms) K := by
  intro l1
  induction l1 with
  | nil => intro σ _ _ _ h; exact h
  | cons j r ih =>
    intro σ hr hg hc h
    obtain ⟨p, v, ms, hp, he, h⟩ := h
    obtain ⟨o, v', ms', ho, he', h⟩ := ih _ (eff_real hT hr he) (good_put hg (hcl p (List.mem_of_getElem? hp)) he) (fun k hk => hc k (by simp [hk])) h
    obtain ⟨c1, c2⟩ := hc j (by simp) p o hp ho
    obtain ⟨s1, s2, s3⟩ : Eff T P Φ.n ops o σ v' ms' ∧ Eff T P Φ.n ops p (σ.put o.dst v' ms') v ms ∧ (σ.put p.dst v ms).put o.dst v' ms' = (σ.put o.dst v' ms').put p.dst v ms := by
      rcases c2 with c2 | c2
      · exact swap hr.wf c1 c2 he he'
      · exact swap_load hr.wf hg c1 c2 he he'
    refine ⟨o, v', ms', ho, s1, p, v, ms, hp, s2, ?_⟩
    rw [← s3]
    exact h

theorem run_runI (K : St → Prop) : ∀ (l : List Oper) (k : Nat) (σ : St), (∀ j, l[j]? = ops[k + j]?) → Run T P true Φ.n ops l σ K → RunI T P Φ.n ops (List.range' k l.length) σ K := by
  intro l
  induction l with
  | nil => intro k σ _ h; exact h
  | cons o r ih =>
    intro k σ hl h
    obtain ⟨v, ms, he, h⟩ := step_eff h
    have h0 := hl 0
    simp only [List.getElem?_cons_zero, Nat.add_zero] at h0
    refine ⟨o, v, ms, h0.symm, he, ?_⟩
    refine ih (k + 1) _ (fun j => ?_) h
    have := hl (j + 1)
    simp only [List.getElem?_cons_succ] at this
    rw [this]; congr 1; omega

/-! ### who waits for whom -/
theorem testBit_maskOf {ms : List Nat} {o : Oper} {j : Nat} (h : (maskOf ms o).testBit j = true) : ∃ e ∈ o.after, Region.binds .any e = true ∧ (j = e.on ∨ (ms.getD e.on 0).testBit j = true) := by
  unfold maskOf at h
  rw [← Array.foldl_toList] at h
  have gen : ∀ (l : List Edge) (m : Nat), (l.foldl (fun m e => if Region.binds .any e then m ||| 2 ^ e.on ||| ms.getD e.on 0 else m) m).testBit j = true → m.testBit j = true ∨ ∃ e ∈ l, Region.binds .any e = true ∧ (j = e.on ∨ (ms.getD e.on 0).testBit j = true) := by
    intro l
    induction l with
    | nil => intro m h; exact .inl h
    | cons e r ih =>
      intro m h
      rw [List.foldl_cons] at h
      rcases ih _ h with h | ⟨e', he', h⟩
      · split at h
        · rename_i hb
          rw [Nat.testBit_or, Nat.testBit_or, Bool.or_eq_true, Bool.or_eq_true] at h
          rcases h with (h | h) | h
          · exact .inl h
          · rw [Nat.testBit_two_pow] at h
            exact .inr ⟨e, by simp, hb, .inl (of_decide_eq_true h).symm⟩
          · exact .inr ⟨e, by simp, hb, .inr h⟩
        · exact .inl h
      · exact .inr ⟨e', by simp [he'], h⟩
  rcases gen _ _ h with h | ⟨e, he, h⟩
  · simp at h
  · exact ⟨e, Array.mem_toList_iff.1 he, h⟩

/-- whatever must come before one that is listed or ready is listed -/
theorem mask_listed {L R : Nat → Prop} (hc : ∀ i o, ops[i]? = some o → R i → ∀ e ∈ o.after, Region.binds .any e = true → L e.on) (hLR : ∀ i, L i → R i) :
    ∀ (l pre : List Oper) (ms : List Nat), ops = pre ++ l → ms.length = pre.length → (∀ k j, R k → (ms.getD k 0).testBit j = true → L j) →
      ∀ k j, R k → ((l.foldl (fun ms o => ms ++ [maskOf ms o]) ms).getD k 0).testBit j = true → L j := by
  intro l
  induction l with
  | nil => intro pre ms _ _ h; exact h
  | cons o r ih =>
    intro pre ms hops hlen h
    rw [List.foldl_cons]
    refine ih (pre ++ [o]) _ (by simp [hops]) (by simp [hlen]) ?_
    intro k j hk hb
    by_cases e : k = ms.length
    · subst e
      simp at hb
      obtain ⟨e, he, hbi, hor⟩ := testBit_maskOf hb
      have hL := hc ms.length o (by rw [hops, hlen]; simp) hk e he hbi
      rcases hor with rfl | hor
      · exact hL
      · exact h e.on j (hLR _ hL) hor
    · refine h k j hk ?_
      rcases Nat.lt_or_ge k ms.length with hlt | hge
      · rw [List.getD_eq_getElem?_getD, List.getElem?_append_left hlt] at hb; rw [List.getD_eq_getElem?_getD]; exact hb
      · rw [List.getD_eq_getElem?_getD, List.getElem?_eq_none (by simp; omega)] at hb; simp at hb

theorem regionOk_spec {cl : List (Nat × Nat)} (h : regionOkC cl ops = true) : (∀ o ∈ ops, claimOk cl o = true) ∧ ∀ (k : Nat) (o : Oper), ops[k]? = some o → (∀ e ∈ o.after, Region.binds .any e = true → e.on < k) ∧
    ∀ (i : Nat) (p : Oper), i < k → ops[i]? = some p → ((masks ops).getD k 0).testBit i = true ∨ (Oper.apart ops.toArray p o = true ∧ (clash (cls p.op) (cls o.op) = false ∨ loadSep cl p.op o.op = true)) := by
  unfold regionOkC at h
  simp only [List.all_eq_true, Bool.and_eq_true] at h
  refine ⟨h.1, ?_⟩
  intro k o hk
  have h1 := h.2 (o, k) (List.mem_zipIdx_iff_getElem?.2 hk)
  simp only [Bool.and_eq_true, List.all_eq_true, Array.all_eq_true_iff_forall_mem] at h1
  refine ⟨fun e he hb => ?_, fun i p hi hp => ?_⟩
  · have := h1.1.1 e he
    simp [hb] at this
    exact this
  · have := h1.2 (p, i) (List.mem_zipIdx_iff_getElem?.2 (by rw [List.getElem?_take_of_lt hi]; exact hp))
    simp only [Bool.or_eq_true, Bool.and_eq_true, Bool.not_eq_true'] at this
    rcases this with h | h
    · exact .inl h
    · exact .inr ⟨h.1.1, h.2⟩

/-! ### the orders -/
def rem (n : Nat) (listed : Array Bool) : List Nat := (List.range n).filter fun i => !listed.getD i true

theorem mem_rem {n : Nat} {listed : Array Bool} {i : Nat} : i ∈ rem n listed ↔ i < n ∧ listed.getD i true = false := by
  simp [rem]

theorem getD_set {listed : Array Bool} {i j : Nat} {b : Bool} (hi : i < listed.size) : (listed.setIfInBounds i true).getD j b = if j = i then true else listed.getD j b := by
  rw [Array.getD_eq_getD_getElem?, Array.getD_eq_getD_getElem?, Array.getElem?_setIfInBounds]
  by_cases e : i = j
  · subst e; simp [hi]
  · simp [e, Ne.symm e]

theorem rem_set {n : Nat} {listed : Array Bool} {i : Nat} (hi : i < listed.size) {l1 l2 : List Nat} (h : rem n listed = l1 ++ i :: l2) : rem n (listed.setIfInBounds i true) = l1 ++ l2 := by
  have h1 : rem n (listed.setIfInBounds i true) = (rem n listed).filter fun j => !decide (j = i) := by
    unfold rem
    rw [List.filter_filter]
    apply List.filter_congr
    intro j _
    rw [getD_set hi]
    by_cases e : j = i <;> simp [e]
  have hnd : (rem n listed).Nodup := List.Pairwise.filter _ List.nodup_range
  rw [h] at hnd
  rw [h1, h, List.filter_append, List.filter_cons]
  have hn := List.nodup_append.1 hnd
  have ha : l1.filter (fun j => !decide (j = i)) = l1 := List.filter_eq_self.2 fun j hj => by
    have := hn.2.2 j hj i (by simp)
    simp [this]
  have hb : l2.filter (fun j => !decide (j = i)) = l2 := List.filter_eq_self.2 fun j hj => by
    have := (List.nodup_cons.1 hn.2.1).1
    have : j ≠ i := fun e => this (e ▸ hj)
    simp [this]
  rw [ha, hb]
  simp

theorem any_sound (hT : TabOk T P) {opsA : Array Oper} (hA : opsA.toList = ops) {cl : List (Nat × Nat)} (hr : regionOkC cl ops = true) {Q : Exit → Act → World → Prop} (hQ : ∀ σ' a' w' G', K σ' → Inv T Φ σ' a' w' G' → Q .normal a' w') :
    ∀ (fuel : Nat) (listed : Array Bool) (σ : St) (a : Act) (w : World) (G : Gh), Inv T Φ σ a w G → Good cl σ → listed.size = ops.length →
      (∀ i o, ops[i]? = some o → listed.getD i true = true → ∀ e ∈ o.after, Region.binds .any e = true → listed.getD e.on false = true) →
      (rem ops.length listed).length ≤ fuel → RunI T P Φ.n ops (rem ops.length listed) σ K → wpAny P .any opsA Q fuel listed a w := by
  have hsz : opsA.size = ops.length := by rw [← hA]; simp
  have hget : ∀ i, opsA[i]? = ops[i]? := fun i => by rw [← hA, Array.getElem?_toList]
  have hready : ∀ (listed : Array Bool) i, i ∈ Region.ready .any opsA listed ↔ (i ∈ rem ops.length listed ∧ ∃ o, ops[i]? = some o ∧ ∀ e ∈ o.after, Region.binds .any e = true → listed.getD e.on false = true) := by
    intro listed i
    unfold Region.ready
    rw [List.mem_filter, List.mem_range, mem_rem, hsz, hget]
    cases h : ops[i]? with
    | none => simp
    | some o =>
      simp only [Bool.and_eq_true, Bool.not_eq_true', Option.map_some, Option.getD_some, Array.all_eq_true_iff_forall_mem]
      constructor
      · rintro ⟨h1, h2, h3⟩
        refine ⟨⟨h1, h2⟩, o, rfl, fun e he hb => ?_⟩
        have := h3 e he
        simpa [hb] using this
      · rintro ⟨⟨h1, h2⟩, o', ho', h3⟩
        cases ho'
        refine ⟨h1, h2, fun e he => ?_⟩
        cases hb : Region.binds .any e with
        | false => rfl
        | true => simp [h3 e he hb]
  have hne : ∀ (listed : Array Bool), listed.size = ops.length → Region.ready .any opsA listed = [] → rem ops.length listed = [] := by
    intro listed hls hnil
    cases hrem : rem ops.length listed with
    | nil => rfl
    | cons i r =>
      exfalso
      have hi : i ∈ rem ops.length listed := by rw [hrem]; simp
      obtain ⟨h1, h2⟩ := mem_rem.1 hi
      have hpw : (rem ops.length listed).Pairwise (· < ·) := List.Pairwise.filter _ List.pairwise_lt_range
      rw [hrem] at hpw
      have hmem : i ∈ Region.ready .any opsA listed := by
        rw [hready]
        refine ⟨hi, ops[i], by simp [h1], fun e he hb => ?_⟩
        have hlt := ((regionOk_spec hr).2 i ops[i] (by simp [h1])).1 e he hb
        cases hl : listed.getD e.on false with
        | true => rfl
        | false =>
          exfalso
          have hm : e.on ∈ rem ops.length listed := mem_rem.2 ⟨by omega, by
            have hlt' : e.on < listed.size := by omega
            simp [hlt'] at hl ⊢
            exact hl⟩
          rw [hrem] at hm
          rcases List.mem_cons.1 hm with h | h
          · omega
          · have := (List.pairwise_cons.1 hpw).1 _ h; omega
      rw [hnil] at hmem
      cases hmem
  intro fuel
  induction fuel with
  | zero =>
    intro listed σ a w G inv _ hls hcl hlen h
    have h0 : rem ops.length listed = [] := List.length_eq_zero_iff.1 (by omega)
    rw [h0] at h
    refine ⟨?_, hQ σ a w G h inv⟩
    rw [List.eq_nil_iff_forall_not_mem]
    intro i hi
    have := ((hready listed i).1 hi).1
    rw [h0] at this
    cases this
  | succ fuel ih =>
    intro listed σ a w G inv hgd hls hcl hlen h
    refine ⟨fun hnil => ?_, fun i hi => ?_⟩
    · rw [hne listed hls hnil] at h
      exact hQ σ a w G h inv
    · obtain ⟨him, o, ho, hpre⟩ := (hready listed i).1 hi
      obtain ⟨hil, hiu⟩ := mem_rem.1 him
      obtain ⟨l1, l2, hsp⟩ := List.append_of_mem him
      have hpw : (rem ops.length listed).Pairwise (· < ·) := List.Pairwise.filter _ List.pairwise_lt_range
      rw [hsp] at hpw
      have hcomp : ∀ j ∈ l1, Compat cl ops j i := by
        intro j hj p o' hp ho'
        rw [ho] at ho'; cases ho'
        have hji : j < i := (List.pairwise_append.1 hpw).2.2 j hj i (by simp)
        rcases ((regionOk_spec hr).2 i o ho).2 j p hji hp with hb | hb
        · exfalso
          have hjm : j ∈ rem ops.length listed := by rw [hsp]; simp [hj]
          have hju := (mem_rem.1 hjm).2
          have := mask_listed (ops := ops) (L := fun k => listed.getD k false = true) (R := fun k => listed.getD k false = true ∨ k = i) (by
            rintro k o' hk (hR | rfl) e he hbi
            · refine hcl k o' hk ?_ e he hbi
              have : k < listed.size := by
                rcases Nat.lt_or_ge k listed.size with h | h
                · exact h
                · simp [Array.getD, Nat.not_lt.2 h] at hR
              simp [this] at hR ⊢
              exact hR
            · rw [ho] at hk; cases hk
              exact hpre e he hbi) (fun k hk => .inl hk) ops [] [] rfl rfl (by simp) i j (.inr rfl) hb
          have hjl : j < listed.size := by have := (mem_rem.1 hjm).1; omega
          simp [hjl] at this hju
          rw [this] at hju; cases hju
        · exact hb
      rw [hsp] at h
      obtain ⟨o', v, ms, ho', he, hrest⟩ := front hT (regionOk_spec hr).1 l1 σ ⟨a, w, G, inv⟩ hgd hcomp h
      rw [ho] at ho'; cases ho'
      have hst := eff_step (K := fun σ' => RunI T P Φ.n ops (l1 ++ l2) σ' K ∧ Good cl σ') he ⟨hrest, good_put hgd ((regionOk_spec hr).1 o (List.mem_of_getElem? ho)) he⟩
      have hwp := step_wp hT inv hA (Q := Q) hst
      have hrs := rem_set (n := ops.length) (by omega : i < listed.size) hsp
      have next : ∀ a' w' σ' G', (RunI T P Φ.n ops (l1 ++ l2) σ' K ∧ Good cl σ') → Inv T Φ σ' a' w' G' → wpAny P .any opsA Q fuel (listed.setIfInBounds i true) a' w' := by
        intro a' w' σ' G' hk inv'
        refine ih _ σ' a' w' G' inv' hk.2 (by simp [hls]) ?_ ?_ ?_
        · intro k ok hk' hl e he' hb
          rw [getD_set (by omega)] at hl ⊢
          split
          · rfl
          · split at hl
            · rename_i hki
              subst hki
              rw [ho] at hk'; cases hk'
              exact hpre e he' hb
            · exact hcl k ok hk' hl e he' hb
        · rw [hrs]
          rw [hsp] at hlen
          simp at hlen ⊢
          omega
        · rw [hrs]; exact hk.1
      unfold wpOp
      rw [hget, ho]
      simp only
      split
      · rename_i hw
        rw [if_pos hw] at hwp
        exact .inl (Oper.wp_mono (fun a' w' ⟨σ', G', hk, inv'⟩ => next a' w' σ' G' hk inv') hwp)
      · rename_i hw
        rw [if_neg hw] at hwp
        obtain ⟨G', σ', hk, inv'⟩ := hwp
        exact next _ _ σ' G' hk inv'

theorem draw_sound (hT : TabOk T P) (hm : P.follows .mixedOrders = true) {ops : List Oper} {K : St → Prop} {opsA : Array Oper} (hA : opsA.toList = ops) {cl : List (Nat × Nat)} (hr : regionOkC cl ops = true) (hgd : Good cl σ) {Q : Exit → Act → World → Prop} (hQ : ∀ σ' a' w' G', K σ' → Inv T Φ σ' a' w' G' → Q .normal a' w') (id : Nat)
    (inv : Inv T Φ σ a w G) (h : Run T P true Φ.n ops ops σ K) : (Code.region id opsA true).wp P Q a w := by
  have hsz : opsA.size = ops.length := by rw [← hA]; simp
  refine wp_region_any hm (any_sound hT hA hr hQ _ _ σ a _ G (inv.drew _) hgd (by simp [hsz]) ?_ ?_ ?_)
  · intro i o hi hl
    have : i < ops.length := (List.getElem?_eq_some_iff.1 hi).1
    simp [hsz, this] at hl
  · refine Nat.le_trans (List.length_filter_le _ _) ?_
    simp [hsz]
  · have : rem ops.length (Array.replicate opsA.size false) = List.range' 0 ops.length := by
      unfold rem
      rw [List.range_eq_range']
      refine List.filter_eq_self.2 fun i hi => ?_
      have : i < ops.length := by simpa using hi
      simp [hsz, this]
    rw [this]
    exact run_runI K ops 0 σ (fun j => by simp) h
end
end Go.Ab
