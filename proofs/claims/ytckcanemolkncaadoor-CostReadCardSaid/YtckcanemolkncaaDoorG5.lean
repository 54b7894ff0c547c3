/-
  Regions in the order of the text, code, functions.
  An operation comes to one end.
  What an operation looks at: its operands, the entries that they name, the entries that it makes.
  What an operation looks at: all operations.
-/
import Derived.Test.YtckcanemolkncaaDoorG9
import Derived.Test.YtckcanemolkncaaDoorG2
import Derived.Laws.Cover3
set_option linter.unusedVariables false
set_option linter.unusedSimpArgs false
namespace Go.Ab
section
variable {T : Tab} {P : Program} {Φ : Fr} {σ : St} {a : Act} {w w' : World} {G G' : Gh} {K : VK} {o : Oper} {d : Nat}

theorem Inv.put' (ms : List Mod) (inv : Inv T Φ (σ.apps ms) a w G) {dst : Option Nat} (hd : ∀ d, dst = some d → d < Φ.n) {v' : Value} {v : V} (hv : Rv w G v' v) (hok : v.ok (σ.apps ms).hasB (σ.apps ms).hasA) : Inv T Φ (σ.put dst v ms) (a.put dst v') w G := by
  cases dst with
  | none => exact inv
  | some d => exact inv.putSlot (hd d rfl) hv hok

theorem run_call {f : FuncId} {as : List Operand} {ts : Array TypeId} (ho : o.op = .call ⟨.value (.func f), ⟨as⟩, ts⟩) (hc : callable P f = true) : (execOp a.eval o).run P w = .ok (.enter f (as.map a.eval).toArray) w := by
  unfold callable at hc
  split at hc
  · rename_i fn hfn
    simp only [Bool.and_eq_true, bne_iff_ne] at hc
    have hb : fn.body ≠ none := by intro h; rw [h] at hc; simp at hc
    simp [execOp, ho, resolve, Act.eval, Deferred.ofValue, invoke, callFunc, hfn, hb, hc.2]
  · cases hc

theorem run_callv {t g : Nat} {as : List Operand} {ts : Array TypeId} {lb : Array Value} (ho : o.op = .call ⟨.value (.tmp t), ⟨as⟩, ts⟩) (ht : a.tmps.getD t undef = .func (.func g) #[] lb) (hc : callable P g = true) : (execOp a.eval o).run P w = .ok (.enter g (as.map a.eval ++ lb.toList).toArray) w := by
  unfold callable at hc
  split at hc
  · rename_i fn hfn
    simp only [Bool.and_eq_true, bne_iff_ne] at hc
    have hb : fn.body ≠ none := by intro h; rw [h] at hc; simp at hc
    have ht' : a.eval (.tmp t) = .func (.func g) #[] lb := ht
    simp [execOp, ho, resolve, ht', Deferred.ofValue, invoke, callFunc, hfn, hb, hc.2]
  · cases hc

theorem callv_sound (inv : Inv T Φ σ a w G) {light : Md} {t g : Nat} {as : List Operand} {caps : List V} (hfn : σ.env t = .fn g caps) (h : callVC T P light σ d g (as.map σ.ev ++ caps) K) :
    ∃ lb : Array Value, a.tmps.getD t undef = .func (.func g) #[] lb ∧ callable P g = true ∧ Calls P g (as.map a.eval ++ lb.toList).toArray w fun e w' => ∃ v', e = .returned v' ∧ ∃ v ms G', K v ms ∧ Inv T Φ (σ.apps ms) a w' G' ∧ Rv w' G' v' v ∧ v.ok (σ.apps ms).hasB (σ.apps ms).hasA := by
  have he := inv.env t
  have hwf := inv.wfE t
  rw [hfn] at he hwf
  obtain ⟨lb, e1, e2, e3⟩ := he.fn_inv
  simp only [V.ok] at hwf
  refine ⟨lb, e1, call_gen inv (us := as.map a.eval ++ lb.toList) (by simp [e2]) (fun i v x hv hx => ?_) h⟩
  rcases Nat.lt_or_ge i as.length with hi | hi
  · rw [List.getElem?_append_left (by simpa using hi)] at hv hx
    have q1 : v = a.eval as[i] := by simpa [hi] using hv.symm
    have q2 : x = σ.ev as[i] := by simpa [hi] using hx.symm
    rw [q1, q2]
    exact inv.ev as[i]
  · rw [List.getElem?_append_right (by simpa using hi)] at hv hx
    simp only [List.length_map] at hv hx
    refine ⟨e3 _ v x (by simpa using hv) hx, ?_⟩
    exact okL_iff.1 hwf x (List.mem_of_getElem? hx)

theorem eql_nil {t e : TypeId} (hu : P.underlying t = some (.slice e)) (ad : Option Addr) (n cp : Nat) : (binOp .eql t (.slice ad n cp) (.slice none 0 0)).run P w = .ok (.bool ad.isNone) w := by
  simp only [binOp]
  simp [run_equal_slice_nil w t e ad n cp hu]

theorem oper_wp (hT : TabOk T P) (inv : Inv T Φ σ a w G) (o : Oper) (hd : ∀ d, o.dst = some d → d < Φ.n) {light : Md} (h : operVC T P light σ d o.op K) {Q : Exit → Act → World → Prop} :
    o.wp P a w (fun a' w' => ∃ v ms G', K v ms ∧ Inv T Φ (σ.put o.dst v ms) a' w' G') Q := by
  unfold operVC at h
  split at h
  · rename_i f as ts ho
    rw [forceL_eq, mapR_eq] at h
    obtain ⟨hc, hcalls⟩ := call_sound inv as h
    unfold Oper.wp
    rw [run_call ho hc, Oper.upon_enter]
    refine hcalls.mono ?_
    rintro e w1 ⟨v', rfl, v, ms, G', hk, inv', hv, hvo⟩
    refine ⟨v, ms, G', hk, ?_⟩
    exact Inv.put' ms inv' hd hv hvo
  · rename_i t as ts ho
    split at h
    · rename_i g caps hfn
      rw [forceL_eq, mapR_eq, appR_eq] at h
      obtain ⟨lb, e1, hc, hcalls⟩ := callv_sound inv hfn h
      unfold Oper.wp
      rw [run_callv ho e1 hc, Oper.upon_enter]
      refine hcalls.mono ?_
      rintro e w1 ⟨v', rfl, v, ms, G', hk, inv', hv, hvo⟩
      exact ⟨v, ms, G', hk, Inv.put' ms inv' hd hv hvo⟩
    · exact h.elim
  · rename_i t x lo hi mx ho
    have fin : ∀ {K' : VK} {ns : List Mod} {G1 : Gh}, Inv T Φ (σ.apps ns) a w G1 → opVC T (σ.apps ns) d o.op K' → (∀ v ms, K' v ms → K v (ns ++ ms)) → o.wp P a w (fun a' w' => ∃ v ms G', K v ms ∧ Inv T Φ (σ.put o.dst v ms) a' w' G') Q := by
      intro K' ns G1 inv1 h1 hk1
      obtain ⟨v', w1, v, ms, G', hr, hk, inv', hv, hvo⟩ := op_sound hT inv1 o h1
      rw [← apps_append] at inv' hvo
      unfold Oper.wp
      rcases hr with hr | ⟨hr, rfl⟩
      · rw [hr, Oper.upon_value]
        exact ⟨v, ns ++ ms, G', hk1 _ _ hk, Inv.put' _ inv' hd hv hvo⟩
      · rw [hr, Oper.upon_skip]
        exact ⟨v, ns ++ ms, G', hk1 _ _ hk, Inv.put' _ inv' hd hv hvo⟩
    rw [← ho] at h
    split at h
    · split at h
      · rename_i gen ty l hen
        obtain ⟨O', inv1, _, _⟩ := inv.freeze hen (.inl rfl)
        exact fin inv1 h (fun _ _ hk => hk)
      · rename_i gen ty l hen
        obtain ⟨O', inv1, _, _⟩ := inv.freeze hen (.inr rfl)
        exact fin inv1 h (fun _ _ hk => hk)
      · exact fin (ns := []) inv h (fun _ _ hk => hk)
    · exact fin (ns := []) inv h (fun _ _ hk => hk)
  · rename_i bop t x c t' ho
    split at h
    · rename_i l hx
      obtain ⟨c0, ty, kd, hop, hout⟩ := h
      subst c0
      have hu : ∃ e, P.underlying t = some (.slice e) := by
        obtain ⟨dd, h1, h2, _⟩ := (hT t ty).und
        rw [kd] at h2
        cases dd <;> simp [kdOf] at h2
        exact ⟨_, h1⟩
      obtain ⟨e, hu⟩ := hu
      have hxv := (inv.ev (.tmp x)).1
      have hxe : σ.ev (.tmp x) = .sl l := hx
      rw [hxe] at hxv
      have fin : ∀ (ad : Option Addr) (n cp : Nat), a.eval (.tmp x) = .slice ad n cp → (l ≠ [] → ad.isNone = false) → o.wp P a w (fun a' w' => ∃ v ms G', K v ms ∧ Inv T Φ (σ.put o.dst v ms) a' w' G') Q := by
        intro ad n cp he hl
        have hk := hout ad.isNone hl
        unfold Oper.wp
        rcases hop with rfl | rfl
        · rw [run_bin (.tmp x) (.const (.slice none 0 0)) .eql t t' ho _ _ (.bool ad.isNone) he rfl (guard_plain _ _ _ _ _ _ (by simp) (by simp)) (eql_nil hu ad n cp), Oper.upon_value]
          exact ⟨_, _, G, hk, Inv.put' [] inv hd (B_ok _ _ _) lit_triv⟩
        · rw [run_bin (.tmp x) (.const (.slice none 0 0)) .neq t t' ho _ _ (.bool (!ad.isNone)) he rfl (guard_plain _ _ _ _ _ _ (by simp) (by simp)) (run_neq_slice_nil w t e ad n cp hu), Oper.upon_value]
          exact ⟨_, _, G, hk, Inv.put' [] inv hd (B_ok _ _ _) lit_triv⟩
      generalize hev : a.eval (.tmp x) = xv at hxv
      cases hxv with
      | slN => exact fin none 0 0 hev (fun h => absurd rfl h)
      | slS ad cp => exact fin (some ad) _ cp hev (fun _ => rfl)
    · rw [← ho] at h
      obtain ⟨v', w1, v, ms, G', hr, hk, inv', hv, hvo⟩ := op_sound hT inv o h
      unfold Oper.wp
      rcases hr with hr | ⟨hr, rfl⟩
      · rw [hr, Oper.upon_value]
        exact ⟨v, ms, G', hk, Inv.put' ms inv' hd hv hvo⟩
      · rw [hr, Oper.upon_skip]
        exact ⟨v, ms, G', hk, Inv.put' ms inv' hd hv hvo⟩
  · obtain ⟨v', w1, v, ms, G', hr, hk, inv', hv, hvo⟩ := op_sound hT inv o h
    unfold Oper.wp
    rcases hr with hr | ⟨hr, rfl⟩
    · rw [hr, Oper.upon_value]
      refine ⟨v, ms, G', hk, ?_⟩
      exact Inv.put' ms inv' hd hv hvo
    · rw [hr, Oper.upon_skip]
      refine ⟨v, ms, G', hk, ?_⟩
      exact Inv.put' ms inv' hd hv hvo

theorem appsS_eq (ms : List Mod) : ∀ (σ : St) (K : (Nat → V) → (Nat → Option (List V)) → (Nat → Option AE) → Prop), appsS ms σ.env σ.bx σ.ar K = K (σ.apps ms).env (σ.apps ms).bx (σ.apps ms).ar := by
  induction ms with
  | nil => intro σ K; rfl
  | cons m r ih =>
    intro σ K
    have h1 : σ.apps (m :: r) = (m.app σ).apps r := rfl
    rw [h1, ← ih (m.app σ) K]
    cases m <;> rfl

/-- one operation of a region, carried out or not -/
def Step (T : Tab) (P : Program) (light : Md) (n : Nat) (ops : List Oper) (o : Oper) (σ : St) (K : St → Prop) : Prop :=
  match o.guard with
  | none => ((∀ d, o.dst = some d → d < n) ∧ operVC T P light σ (o.dst.getD n) o.op fun v ms => K (σ.put o.dst v ms)) ∨
      (light = .free ∧ ∃ d g c cs, o.dst = some d ∧ d < n ∧ o.op = .makeFunc (.func g) ⟨[]⟩ ⟨c :: cs⟩ ∧ capsK (T.ref g) σ.ar (c :: cs) σ.env σ.bx fun env bx caps => K ⟨upd env d (.fn g caps), bx, σ.ar⟩)
  | some (j, want) => ∃ s, guardSlot ops j = some s ∧ (∀ d, o.dst = some d → d < n) ∧
      ((∃ b, σ.env s = .lit (.bool b) ∧ if b = want then operVC T P light σ (o.dst.getD n) o.op fun v ms => K (σ.put o.dst v ms) else K (σ.put o.dst (.tup []) [])) ∨ (∃ cs, σ.env s = .tup cs ∧ K (σ.put o.dst (.tup []) [])))

theorem runOp_step {light : Md} {n : Nat} {dst : Option Nat} {op : Op} {ih : OpsK} {K : St → Prop} (h : runOp T P light n dst op ih σ.env σ.bx σ.ar K) :
    (∀ d, dst = some d → d < n) ∧ operVC T P light σ (dst.getD n) op fun v ms => ih (σ.put dst v ms).env (σ.put dst v ms).bx (σ.put dst v ms).ar K := by
  unfold runOp at h
  cases dst with
  | none =>
    refine ⟨(fun _ h => by cases h), ?_⟩
    have h' := h
    simp only [appsS_eq _ σ] at h'
    exact h'
  | some d =>
    obtain ⟨hd, h2⟩ := cond_F h
    refine ⟨(fun d' h => by cases h; exact blt hd), ?_⟩
    simp only [appsS_eq _ σ] at h2
    exact h2
theorem skipOp_step {n : Nat} {dst : Option Nat} {ih : OpsK} {K : St → Prop} (h : skipOp n dst ih σ.env σ.bx σ.ar K) :
    (∀ d, dst = some d → d < n) ∧ ih (σ.put dst (.tup []) []).env (σ.put dst (.tup []) []).bx (σ.put dst (.tup []) []).ar K := by
  unfold skipOp at h
  cases dst with
  | none => exact ⟨(fun _ h => by cases h), h⟩
  | some d =>
    obtain ⟨hd, h2⟩ := cond_F h
    exact ⟨(fun d' h => by cases h; exact blt hd), h2⟩

theorem upd_self {α : Type} (f : Nat → α) (s : Nat) (x : α) (h : f s = x) : upd f s x = f := by
  funext t
  by_cases e : t = s
  · subst e; rw [upd_same]; exact h.symm
  · exact upd_ne f x e

theorem opStep_step {light : Md} {n : Nat} {ops : List Oper} {ih : OpsK} {K : St → Prop} (h : opStep T P light n ops o ih σ.env σ.bx σ.ar K) :
    Step T P light n ops o σ fun σ' => ih σ'.env σ'.bx σ'.ar K := by
  unfold opStep at h
  obtain ⟨dst, op, ty, pos, after, guard⟩ := o
  unfold Step
  simp only at h ⊢
  cases guard with
  | none =>
    have h0 : runOpF T P light n dst op ih σ.env σ.bx σ.ar K := h
    unfold runOpF at h0
    split at h0
    · rename_i g c cs
      split at h0
      · rename_i d
        obtain ⟨hd, h2⟩ := cond_F h0
        exact .inr ⟨rfl, d, g, c, cs, rfl, blt hd, rfl, h2⟩
      · exact h0.elim
    · exact .inl (runOp_step h0)
  | some g =>
    obtain ⟨j, want⟩ := g
    simp only at h ⊢
    split at h
    · rename_i s hs
      refine ⟨s, hs, ?_⟩
      split at h
      · rename_i b hb
        cases b with
        | true =>
          rw [show upd σ.env s (B true) = σ.env from upd_self _ _ _ hb] at h
          cases want with
          | true =>
            obtain ⟨h1, h2⟩ := runOp_step (σ := σ) h
            exact ⟨h1, .inl ⟨true, hb, by simpa using h2⟩⟩
          | false =>
            obtain ⟨h1, h2⟩ := skipOp_step (σ := σ) h
            exact ⟨h1, .inl ⟨true, hb, by simpa using h2⟩⟩
        | false =>
          rw [show upd σ.env s (B false) = σ.env from upd_self _ _ _ hb] at h
          cases want with
          | true =>
            obtain ⟨h1, h2⟩ := skipOp_step (σ := σ) h
            exact ⟨h1, .inl ⟨false, hb, by simpa using h2⟩⟩
          | false =>
            obtain ⟨h1, h2⟩ := runOp_step (σ := σ) h
            exact ⟨h1, .inl ⟨false, hb, by simpa using h2⟩⟩
      · rename_i cs hb
        obtain ⟨h1, h2⟩ := skipOp_step (σ := σ) h
        exact ⟨h1, .inr ⟨cs, hb, h2⟩⟩
      · exact h.elim
    · exact h.elim

/-- the whole region, one operation behind the other -/
def Run (T : Tab) (P : Program) (light : Md) (n : Nat) (ops : List Oper) : List Oper → St → (St → Prop) → Prop
  | [], σ, K => K σ
  | o :: r, σ, K => Step T P light n ops o σ fun σ' => Run T P light n ops r σ' K

theorem capsK_cons (rf : Bool) (ar : Nat → Option AE) (c : Operand) (r : List Operand) (env : Nat → V) (bx : Nat → Option (List V)) (K : (Nat → V) → (Nat → Option (List V)) → List V → Prop) : capsK rf ar (c :: r) env bx K = (match St.ev ⟨env, bx, ar⟩ c with
      | .box i off => match off, bx i with
        | 0, some cells => match rf with
          | true => capsK rf ar r env bx fun env bx caps => K env bx (.box i 0 :: caps)
          | false => forceL cells fun cells => cond (allR V.atom cells && Nat.blt i 100000) (capsK rf ar r (fun s => (env s).frz i cells) (frzB i cells bx) fun env bx caps => K env bx (.fp cells :: caps)) False
        | _, _ => False
      | .fp cs => capsK rf ar r env bx fun env bx caps => K env bx (.fp cs :: caps)
      | _ => False) := rfl

theorem caps_mono {rf : Bool} {ar : Nat → Option AE} {xs : List Operand} : ∀ {env : Nat → V} {bx : Nat → Option (List V)} {K K' : (Nat → V) → (Nat → Option (List V)) → List V → Prop}, (∀ env bx caps, K env bx caps → K' env bx caps) → capsK rf ar xs env bx K → capsK rf ar xs env bx K' := by
  induction xs with
  | nil => intro env bx K K' hk h; exact hk _ _ _ h
  | cons c r ih =>
    intro env bx K K' hk h
    rw [capsK_cons] at h ⊢
    split at h
    · rename_i i off hev
      split at h
      · rename_i cells hb
        cases rf with
        | true => exact ih (fun env bx caps => hk _ _ _) h
        | false =>
          simp only at h ⊢
          rw [forceL_eq] at h
          obtain ⟨ha, h2⟩ := cond_F h
          rw [forceL_eq, ha, cond_true]
          exact ih (fun env bx caps => hk _ _ _) h2
      · exact h.elim
    · exact ih (fun env bx caps => hk _ _ _) h
    · exact h.elim

theorem atom_pure2 {x : V} {p : Nat → Prop} {q : Nat → Nat → Prop} (h : x.atom = true) (hok : x.ok p q) : x.pure := by
  cases x with
  | lit u => simp only [V.pure, V.ok]
  | sl l => simp only [V.pure, V.ok] at hok ⊢; exact hok
  | cap l => simp only [V.pure, V.ok] at hok ⊢; exact hok
  | fn g l => simp only [V.pure, V.ok] at hok ⊢; exact stillL_pure h hok
  | _ => simp [V.atom] at h

/-- what is captured, frozen -/
theorem caps_frz {xs : List Operand} : ∀ {σ : St} {G : Gh} {K : (Nat → V) → (Nat → Option (List V)) → List V → Prop}, Inv T Φ σ a w G → capsK false σ.ar xs σ.env σ.bx K →
    ∃ env bx caps G', K env bx caps ∧ Inv T Φ ⟨env, bx, σ.ar⟩ a w G' ∧ Keep w w G G' ∧ caps.length = xs.length ∧ pureL caps ∧ ∀ (i : Nat) c x, xs[i]? = some c → caps[i]? = some x → Rv w G' (a.eval c) x := by
  induction xs with
  | nil => intro σ G K inv h; exact ⟨σ.env, σ.bx, [], G, h, inv, Keep.refl w G, rfl, by simp only [V.okL], fun i c x hc => by simp at hc⟩
  | cons c r ih =>
    intro σ G K inv h
    rw [capsK_cons] at h
    have hev : St.ev ⟨σ.env, σ.bx, σ.ar⟩ c = σ.ev c := rfl
    obtain ⟨hv, hok⟩ := inv.ev c
    have fin : ∀ {caps : List V} {G1 G' : Gh} {x0 : V}, Keep w w G1 G' → Rv w G1 (a.eval c) x0 → x0.pure → (∀ (i : Nat) c x, r[i]? = some c → caps[i]? = some x → Rv w G' (a.eval c) x) → ∀ (i : Nat) c' x, (c :: r)[i]? = some c' → (x0 :: caps)[i]? = some x → Rv w G' (a.eval c') x := by
      intro caps G1 G' x0 hk h0 hp hr i c' x hc hx
      cases i with
      | zero => simp at hc hx; subst hc; subst hx; exact h0.pure_keep hk hp
      | succ i => exact hr i c' x (by simpa using hc) (by simpa using hx)
    split at h
    · rename_i i off hb0
      split at h
      · rename_i cells hb
        simp only at h
        rw [forceL_eq] at h
        obtain ⟨ha, h2⟩ := cond_F h
        rw [Bool.and_eq_true] at ha
        have hcs : pureL cells := okL_iff.2 fun x hx => atom_pure2 (allR_iff.1 ha.1 x hx) (okL_iff.1 (inv.wfB i cells hb) x hx)
        obtain ⟨inv1, hk1⟩ := inv.freezeBox hb (blt ha.2) hcs
        obtain ⟨env, bx, caps, G', q1, q2, q3, q4, q5, q6⟩ := ih (σ := ⟨fun s => (σ.env s).frz i cells, frzB i cells σ.bx, σ.ar⟩) inv1 h2
        obtain ⟨cc, tt, w1, w2, w3⟩ := inv.box i cells hb
        have hfp : Rv w { G with O := upd G.O (G.β i) .fz } (a.eval c) (.fp cells) := by
          have hbx : σ.ev c = .box i 0 := hb0
          have := hv.frz w1 w2 hcs w3 hok
          rw [hbx, frz_box_same, List.drop_zero] at this
          exact this
        have hfpp : (V.fp cells).pure := by simp only [V.pure, V.ok]; exact hcs
        exact ⟨env, bx, _, G', q1, q2, ⟨fun b hb => q3.fz b (hk1.fz b hb), fun _ _ => rfl⟩, by simp [q4], by simp only [V.okL]; exact ⟨hfpp, q5⟩, fin q3 hfp hfpp q6⟩
      · exact h.elim
    · rename_i cs hb0
      obtain ⟨env, bx, caps, G', q1, q2, q3, q4, q5, q6⟩ := ih (σ := σ) inv h
      have hbx : σ.ev c = .fp cs := hb0
      rw [hbx] at hv hok
      have hfpp : (V.fp cs).pure := by simp only [V.pure, V.ok] at hok ⊢; exact hok
      exact ⟨env, bx, _, G', q1, q2, q3, by simp [q4], by simp only [V.okL]; exact ⟨hfpp, q5⟩, fin q3 hv hfpp q6⟩
    · exact h.elim

/-- what is captured, by its address -/
theorem caps_ref {xs : List Operand} (inv : Inv T Φ σ a w G) : ∀ {K : (Nat → V) → (Nat → Option (List V)) → List V → Prop}, capsK true σ.ar xs σ.env σ.bx K →
    ∃ caps, K σ.env σ.bx caps ∧ caps.length = xs.length ∧ V.okL σ.hasB σ.hasA caps ∧ ∀ (i : Nat) c x, xs[i]? = some c → caps[i]? = some x → Rv w G (a.eval c) x := by
  induction xs with
  | nil => intro K h; exact ⟨[], h, rfl, by simp only [V.okL], fun i c x hc => by simp at hc⟩
  | cons c r ih =>
    intro K h
    rw [capsK_cons] at h
    obtain ⟨hv, hok⟩ := inv.ev c
    have fin : ∀ (x0 : V), σ.ev c = x0 → (capsK true σ.ar r σ.env σ.bx fun env bx caps => K env bx (x0 :: caps)) → ∃ caps, K σ.env σ.bx caps ∧ caps.length = (c :: r).length ∧ V.okL σ.hasB σ.hasA caps ∧ ∀ (i : Nat) c' x, (c :: r)[i]? = some c' → caps[i]? = some x → Rv w G (a.eval c') x := by
      intro x0 he h
      obtain ⟨caps, q1, q2, q3, q4⟩ := ih h
      rw [he] at hv hok
      refine ⟨x0 :: caps, q1, by simp [q2], by simp only [V.okL]; exact ⟨hok, q3⟩, fun i c' x hc hx => ?_⟩
      cases i with
      | zero => simp at hc hx; subst hc; subst hx; exact hv
      | succ i => exact q4 i c' x (by simpa using hc) (by simpa using hx)
    split at h
    · rename_i i off hb0
      split at h
      · exact fin _ hb0 h
      · exact h.elim
    · rename_i cs hb0
      exact fin _ hb0 h
    · exact h.elim

/-- what is captured -/
theorem caps_sound {rf : Bool} {xs : List Operand} {K : (Nat → V) → (Nat → Option (List V)) → List V → Prop} (inv : Inv T Φ σ a w G) (h : capsK rf σ.ar xs σ.env σ.bx K) :
    ∃ env bx caps G', K env bx caps ∧ Inv T Φ ⟨env, bx, σ.ar⟩ a w G' ∧ caps.length = xs.length ∧ V.okL (St.hasB ⟨env, bx, σ.ar⟩) (St.hasA ⟨env, bx, σ.ar⟩) caps ∧ ∀ (i : Nat) c x, xs[i]? = some c → caps[i]? = some x → Rv w G' (a.eval c) x := by
  cases rf with
  | true =>
    obtain ⟨caps, q1, q2, q3, q4⟩ := caps_ref inv h
    exact ⟨σ.env, σ.bx, caps, G, q1, inv, q2, q3, q4⟩
  | false =>
    obtain ⟨env, bx, caps, G', q1, q2, q3, q4, q5, q6⟩ := caps_frz inv h
    exact ⟨env, bx, caps, G', q1, q2, q4, okL_iff.2 fun x hx => V.pure.ok (okL_iff.1 q5 x hx) _ _, q6⟩

theorem Step.mono {light : Md} {n : Nat} {ops : List Oper} {K K' : St → Prop} (hm : ∀ K1 K2 : VK, (∀ v ms, K1 v ms → K2 v ms) → operVC T P light σ (o.dst.getD n) o.op K1 → operVC T P light σ (o.dst.getD n) o.op K2) (h : Step T P light n ops o σ K) (hk : ∀ σ', K σ' → K' σ') : Step T P light n ops o σ K' := by
  unfold Step at *
  split at h
  · rcases h with h | ⟨h0, d, g, c, cs, h1, h2, h3, h4⟩
    · exact .inl ⟨h.1, hm _ _ (fun v ms => hk _) h.2⟩
    · exact .inr ⟨h0, d, g, c, cs, h1, h2, h3, caps_mono (fun env bx caps => hk _) h4⟩
  · obtain ⟨s, h1, h2, h3⟩ := h
    refine ⟨s, h1, h2, ?_⟩
    rcases h3 with ⟨b, q1, q2⟩ | ⟨cs, q1, q2⟩
    · refine .inl ⟨b, q1, ?_⟩
      split at q2
      · rename_i hb; rw [if_pos hb]; exact hm _ _ (fun v ms => hk _) q2
      · rename_i hb; rw [if_neg hb]; exact hk _ q2
    · exact .inr ⟨cs, q1, hk _ q2⟩

theorem undef_rv (w : World) (G : Gh) : Rv w G undef (.tup []) := .tup #[] [] rfl (fun i c x hc => by simp at hc)

/-- the guard, as the model reads it -/
theorem step_wp (hT : TabOk T P) (inv : Inv T Φ σ a w G) {light : Md} {ops : List Oper} {K : St → Prop} {opsA : Array Oper} (hA : opsA.toList = ops) (h : Step T P light Φ.n ops o σ K) {Q : Exit → Act → World → Prop} :
    if Region.wanted o (yielded opsA a.tmps) = true then o.wp P a w (fun a' w' => ∃ σ' G', K σ' ∧ Inv T Φ σ' a' w' G') Q else ∃ G', ∃ σ', K σ' ∧ Inv T Φ σ' (a.put o.dst undef) w G' := by
  unfold Step at h
  have run : (∀ d, o.dst = some d → d < Φ.n) → (operVC T P light σ (o.dst.getD Φ.n) o.op fun v ms => K (σ.put o.dst v ms)) → o.wp P a w (fun a' w' => ∃ σ' G', K σ' ∧ Inv T Φ σ' a' w' G') Q := by
    intro hd hop
    refine Oper.wp_mono ?_ (oper_wp hT inv o hd hop (Q := Q))
    rintro a' w' ⟨v, ms, G', hk, inv'⟩
    exact ⟨_, G', hk, inv'⟩
  have skip : (∀ d, o.dst = some d → d < Φ.n) → K (σ.put o.dst (.tup []) []) → ∃ G', ∃ σ', K σ' ∧ Inv T Φ σ' (a.put o.dst undef) w G' := by
    intro hd hk
    refine ⟨G, _, hk, ?_⟩
    exact Inv.put' [] inv hd (undef_rv w G) (by simp only [V.ok, V.okL])
  split at h
  · rename_i hg
    rw [if_pos (by simp [Region.wanted, hg])]
    rcases h with h | ⟨_, d, g, c, cs, h1, h2, h3, h4⟩
    · exact run h.1 h.2
    · obtain ⟨env, bx, caps, G', q1, q2, q4, q5, q6⟩ := caps_sound inv h4
      have hr : (execOp a.eval o).run P w = .ok (.value (.func (.func g) #[] ((c :: cs).map a.eval).toArray)) w := by
        simp [execOp, h3, Instr.makeFunc]
      unfold Oper.wp
      rw [hr, Oper.upon_value]
      refine ⟨_, G', q1, ?_⟩
      rw [h1]
      refine Inv.putSlot (σ := ⟨env, bx, σ.ar⟩) q2 h2 ?_ (by simp only [V.ok]; exact q5)
      refine .fn g _ caps (by simp [q4]) (fun i u x hu hx => ?_)
      have hi : i < (c :: cs).length := by rw [← q4]; exact (List.getElem?_eq_some_iff.1 hx).1
      have hu' : u = a.eval (c :: cs)[i] := by
        have h5 : ((c :: cs).map a.eval)[i]? = some u := by rw [← hu]; exact (List.getElem?_toArray ..).symm
        rw [List.getElem?_map, List.getElem?_eq_getElem hi] at h5
        exact (Option.some.inj h5).symm
      rw [hu']
      exact q6 i _ x (List.getElem?_eq_getElem hi) hx
  · rename_i j want hg
    obtain ⟨s, h1, h2, h3⟩ := h
    have hslot : (opsA[j]?).bind (·.dst) = some s := by
      unfold guardSlot at h1
      rw [nth_eq, ← hA] at h1
      simpa using h1
    have hw : Region.wanted o (yielded opsA a.tmps) = (yielded opsA a.tmps j == some want) := by simp [Region.wanted, hg]
    have he := inv.env s
    rcases h3 with ⟨b, q1, q2⟩ | ⟨cs, q1, q2⟩
    · rw [q1] at he
      have hv := he.lit_eq
      have hs : a.tmps[s]? = some (.bool b) := by
        cases h : a.tmps[s]? with
        | none => simp [h, undef] at hv
        | some u => simp [h] at hv; rw [hv]
      have hy : yielded opsA a.tmps j = some b := by simp [yielded, hslot, hs]
      rw [hw, hy]
      by_cases hb : b = want
      · subst hb
        simp only [if_true] at q2
        rw [if_pos (by simp)]
        exact run h2 q2
      · rw [if_neg hb] at q2
        rw [if_neg (by simpa using hb)]
        exact skip h2 q2
    · rw [q1] at he
      obtain ⟨vs, hv, _⟩ := he.tup_inv
      have hy : yielded opsA a.tmps j = none := by
        simp only [yielded, hslot, Option.bind_some]
        cases h : a.tmps[s]? with
        | none => rfl
        | some u =>
          simp [h] at hv
          rw [hv]
      rw [hw, hy, if_neg (by simp)]
      exact skip h2 q2

theorem run_list (hT : TabOk T P) {light : Md} {ops : List Oper} {K : St → Prop} {opsA : Array Oper} (hA : opsA.toList = ops) {Q : Exit → Act → World → Prop} (hQ : ∀ σ' a' w' G', K σ' → Inv T Φ σ' a' w' G' → Q .normal a' w') :
    ∀ (l : List Oper) (σ : St) (a : Act) (w : World) (G : Gh), Inv T Φ σ a w G → Run T P light Φ.n ops l σ K → wpList P opsA Q l a w := by
  intro l
  induction l with
  | nil => intro σ a w G inv h; exact hQ σ a w G h inv
  | cons o r ih =>
    intro σ a w G inv h
    have := step_wp hT inv hA (o := o) (Q := Q) h
    unfold wpList
    split
    · rename_i hw
      rw [if_pos hw] at this
      exact .inl (Oper.wp_mono (fun a' w' ⟨σ', G', hk, inv'⟩ => ih σ' a' w' G' inv' hk) this)
    · rename_i hw
      rw [if_neg hw] at this
      obtain ⟨G', σ', hk, inv'⟩ := this
      exact ih σ' _ w G' inv' hk

end
end Go.Ab
namespace Go.Ab

/-- one outcome, whatever is asked of it -/
def Det (Φ : VK → Prop) : Prop := ∀ K, Φ K → ∃ v ms, K v ms ∧ ∀ K', K' v ms → Φ K'
def DetL (Φ : (List V → Prop) → Prop) : Prop := ∀ K, Φ K → ∃ l, K l ∧ ∀ K', K' l → Φ K'

theorem Det.ret (v : V) (ms : List Mod) : Det (fun K => K v ms) := fun _ h => ⟨v, ms, h, fun _ h => h⟩
theorem Det.false : Det (fun _ => False) := fun _ h => h.elim
theorem Det.need {p : Prop} {Φ : VK → Prop} (h : Det Φ) : Det (fun K => need p (Φ K)) := fun K hk => by
  obtain ⟨hp, hk⟩ := need_p hk
  obtain ⟨v, ms, h1, h2⟩ := h K hk
  exact ⟨v, ms, h1, fun K' hk' => by refine ⟨?_⟩; exact ⟨hp, h2 K' hk'⟩⟩
theorem Det.arith {k : IntKind} {n : Int} {Φ : Int → VK → Prop} (h : ∀ m, Det (Φ m)) : Det (fun K => arith k n fun m => Φ m K) := fun K hk => by
  obtain ⟨v, ms, h1, h2⟩ := h _ K (arith_p hk)
  exact ⟨v, ms, h1, fun K' hk' => by refine ⟨?_⟩; exact h2 K' hk'⟩
theorem Det.idx {l : List V} {i : Nat} {Φ : V → VK → Prop} (h : ∀ x, Det (Φ x)) : Det (fun K => idx l i fun x => Φ x K) := fun K hk => by
  obtain ⟨x, hx, hk⟩ := idx_p hk
  obtain ⟨v, ms, h1, h2⟩ := h x K hk
  exact ⟨v, ms, h1, fun K' hk' => by refine ⟨?_⟩; exact ⟨x, hx, h2 K' hk'⟩⟩
theorem Det.bytes {xs : List V} {Φ : List Int → VK → Prop} (h : ∀ ns, Det (Φ ns)) : Det (fun K => bytesVC xs fun ns => Φ ns K) := fun K hk => by
  obtain ⟨ns, hx, hk⟩ := bytes_p hk
  obtain ⟨v, ms, h1, h2⟩ := h ns K hk
  exact ⟨v, ms, h1, fun K' hk' => by refine ⟨?_⟩; exact ⟨ns, hx, h2 K' hk'⟩⟩
theorem Det.force {x : V} {Φ : V → VK → Prop} (h : ∀ x, Det (Φ x)) : Det (fun K => force x fun y => Φ y K) := fun K hk => by
  have hk' : Ab.force x (fun y => Φ y K) := hk
  rw [force_eq] at hk'
  obtain ⟨v, ms, h1, h2⟩ := h x K hk'
  exact ⟨v, ms, h1, fun K' hk' => by show Ab.force x (fun y => Φ y K'); rw [force_eq]; exact h2 K' hk'⟩
theorem Det.forceL {l : List V} {Φ : List V → VK → Prop} (h : ∀ l, Det (Φ l)) : Det (fun K => forceL l fun y => Φ y K) := fun K hk => by
  have hk' : Ab.forceL l (fun y => Φ y K) := hk
  rw [forceL_eq] at hk'
  obtain ⟨v, ms, h1, h2⟩ := h l K hk'
  exact ⟨v, ms, h1, fun K' hk' => by show Ab.forceL l (fun y => Φ y K'); rw [forceL_eq]; exact h2 K' hk'⟩
theorem Det.cond {b : Bool} {Φ Ψ : VK → Prop} (h : Det Φ) (h' : Det Ψ) : Det (fun K => cond b (Φ K) (Ψ K)) := by
  cases b
  · exact h'
  · exact h
theorem Det.branch {b : Bool} {Φ Ψ : VK → Prop} (h : Det Φ) (h' : Det Ψ) : Det (fun K => branch b (Φ K) (Ψ K)) := by
  cases b
  · exact h'
  · exact h
theorem Det.conts {σ : St} {x : V} {Φ : List V → VK → Prop} (h : ∀ l, Det (Φ l)) : Det (fun K => conts σ x fun l => Φ l K) := by
  unfold Ab.conts
  cases x with
  | sl l => exact h l
  | cap l => exact h l
  | lit u =>
    cases u with
    | slice b n c =>
      cases b with
      | none =>
        cases n with
        | zero =>
          cases c with
          | zero => exact h []
          | succ c => exact Det.false
        | succ n => exact Det.false
      | some b => exact Det.false
    | _ => exact Det.false
  | arr k g =>
    simp only
    cases σ.ar k with
    | none => exact Det.false
    | some en => exact Det.need (h _)
  | _ => exact Det.false
theorem Det.contsF {σ : St} {x : V} {Φ : List V → VK → Prop} (h : ∀ l, Det (Φ l)) : Det (fun K => contsF σ x fun l => Φ l K) := by
  unfold Ab.contsF
  cases x with
  | sl l => exact h l
  | cap l => exact h l
  | lit u =>
    cases u with
    | slice b n c =>
      cases b with
      | none =>
        cases n with
        | zero =>
          cases c with
          | zero => exact h []
          | succ c => exact Det.false
        | succ n => exact Det.false
      | some b => exact Det.false
    | _ => exact Det.false
  | arr k g =>
    simp only
    cases σ.ar k with
    | none => exact Det.false
    | some en => exact Det.need (h _)
  | _ => exact Det.false
theorem Det.bound {o : Option V} {dflt : Int} {Φ : Int → VK → Prop} (h : ∀ n, Det (Φ n)) : Det (fun K => bound o dflt fun n => Φ n K) := by
  unfold Ab.bound
  cases o with
  | none => exact h _
  | some v =>
    cases v with
    | lit u =>
      cases u with
      | int k n => exact h n
      | _ => exact Det.false
    | _ => exact Det.false

theorem det_pickK (r : Row) (cs : List V) : Det (pickK r cs) := by
  unfold pickK
  cases r.agg with
  | true => exact Det.forceL fun l => Det.cond (Det.ret _ _) Det.false
  | false =>
    cases cs with
    | nil => exact Det.false
    | cons x r => exact Det.force fun v => Det.ret _ _

theorem det_fillK (place : Nat → Option (Nat × Nat)) (σ : St) (ps : List (Nat × Operand)) : ∀ (cs : List V) (Φ : List V → VK → Prop), (∀ l, Det (Φ l)) → Det (fun K => fillK place σ ps cs fun l => Φ l K) := by
  induction ps with
  | nil =>
    intro cs Φ h
    exact Det.forceL (l := cs) h
  | cons p r ih =>
    intro cs Φ h
    have hdef : ∀ K, fillK place σ (p :: r) cs K = (match place p.1 with
      | some (o, z) => cond (Nat.beq (lenR (σ.ev p.2).cells) z && Nat.ble (o + z) (lenR cs) && allR V.one (σ.ev p.2).cells) (fillK place σ r (splice cs o (σ.ev p.2).cells) K) False
      | none => False) := fun K => rfl
    simp only [hdef]
    cases place p.1 with
    | none => exact Det.false
    | some q => exact Det.cond (ih _ Φ h) Det.false

theorem det_op (T : Tab) (σ : St) (d : Nat) (o : Op) : Det (opVC T σ d o) := by
  unfold opVC
  split
  · exact Det.force fun v => Det.ret _ _
  · exact Det.force fun v => Det.ret _ _
  · unfold pickVC
    split
    · exact Det.branch (Det.force fun v => Det.ret _ _) (Det.force fun v => Det.ret _ _)
    · exact Det.false
  · unfold unVC
    split
    · exact Det.ret _ _
    · exact Det.arith fun m => Det.ret _ _
    · exact Det.false
  · unfold binVC
    split
    · refine Det.cond ?_ Det.false
      unfold intVC
      split <;> first | exact Det.arith fun m => Det.ret _ _ | exact Det.need (Det.arith fun m => Det.ret _ _) | exact Det.need (Det.ret _ _) | exact Det.ret _ _ | exact Det.false
    · unfold strVC
      split <;> first | exact Det.need (Det.ret _ _) | exact Det.ret _ _ | exact Det.false
    · refine Det.cond ?_ Det.false
      unfold boolVC
      split <;> first | exact Det.ret _ _ | exact Det.false
    · refine Det.cond ?_ Det.false
      unfold aggVC
      split
      · refine Det.need ?_
        split <;> first | exact Det.ret _ _ | exact Det.false
      · refine Det.need ?_
        split <;> first | exact Det.ret _ _ | exact Det.false
      · exact Det.false
    · exact Det.false
  · unfold newBox
    split
    · exact Det.forceL fun l => Det.cond (Det.ret _ _) Det.false
    · exact Det.false
  · refine Det.cond ?_ Det.false
    unfold newBox
    split
    · exact Det.forceL fun l => Det.cond (Det.ret _ _) Det.false
    · exact Det.false
  · refine Det.cond ?_ Det.false
    unfold fieldAddrVC
    split
    · refine Det.cond Det.false ?_
      split
      · exact Det.ret _ _
      · exact Det.forceL fun l => Det.ret _ _
      · exact Det.ret _ _
      · exact Det.false
    · exact Det.false
  · refine Det.cond ?_ Det.false
    unfold fieldVC
    split
    · exact Det.cond (det_pickK _ _) Det.false
    · exact Det.false
  · refine Det.cond ?_ Det.false
    unfold loadVC
    split
    · split
      · exact det_pickK _ _
      · exact Det.false
    · exact det_pickK _ _
    · split
      · exact Det.need (Det.idx fun x => Det.cond (det_pickK _ _) Det.false)
      · exact Det.false
    · exact Det.false
  · refine Det.cond ?_ Det.false
    unfold storeVC
    split
    · split
      · exact Det.cond (Det.forceL fun l => Det.ret _ _) Det.false
      · exact Det.false
    · split
      · exact Det.need (Det.idx fun x => Det.cond (Det.forceL fun l => Det.ret _ _) Det.false)
      · exact Det.false
    · exact Det.false
  · refine Det.cond ?_ Det.false
    unfold indexAddrVC
    split
    · split
      · exact Det.need (Det.idx fun x => Det.forceL fun l => Det.cond (Det.ret _ _) Det.false)
      · exact Det.need (Det.idx fun x => Det.forceL fun l => Det.cond (Det.ret _ _) Det.false)
      · split
        · exact Det.need (Det.cond (Det.ret _ _) Det.false)
        · exact Det.false
      · exact Det.false
    · split
      · exact Det.cond (Det.ret _ _) Det.false
      · exact Det.cond (Det.forceL fun l => Det.ret _ _) Det.false
      · exact Det.false
    · exact Det.false
  · refine Det.cond ?_ Det.false
    unfold indexVC
    split
    · exact Det.need (Det.ret _ _)
    · exact Det.cond (det_pickK _ _) Det.false
    · exact Det.false
  · unfold extractVC
    split
    · split
      · exact Det.force fun v => Det.ret _ _
      · exact Det.false
    · exact Det.false
  · exact Det.ret _ _
  · refine Det.cond ?_ Det.false
    unfold buildVC
    split
    · exact det_fillK _ _ _ _ (fun cs K => K (.agg cs) []) fun l => Det.ret _ _
    · exact Det.cond (det_fillK _ _ _ _ (fun cs K => K (.agg cs) []) fun l => Det.ret _ _) Det.false
    · exact Det.false
  · refine Det.cond ?_ Det.false
    unfold buildSliceVC
    split
    · refine Det.cond ?_ Det.false
      exact det_fillK _ _ _ _ (fun cs K => cond (allR V.atom cs) (K _ _) False) fun l => Det.cond (Det.ret _ _) Det.false
    · exact Det.false
  · refine Det.cond ?_ Det.false
    unfold makeSliceVC
    split
    · exact Det.need (Det.cond (Det.ret _ _) Det.false)
    · exact Det.false
  · refine Det.cond ?_ Det.false
    unfold sliceVC
    split
    · split
      · exact Det.bound (Φ := fun l K => bound _ _ fun h => need _ (K _ _)) fun l => Det.bound (Φ := fun h K => need _ (K _ _)) fun h => Det.need (Det.ret _ _)
      · exact Det.false
    · refine Det.cond ?_ Det.false
      refine Det.contsF fun xs => Det.bound fun l => Det.bound fun h => ?_
      split
      · exact Det.need (Det.ret _ _)
      · split
        · exact Det.false
        · exact Det.bound fun m => Det.need (Det.ret _ _)
    · exact Det.false
  · unfold conv2VC
    split
    · exact Det.cond (Det.conts fun xs => Det.bytes fun ns => Det.ret _ _) Det.false
    unfold convVC
    split
    · exact Det.arith fun m => Det.ret _ _
    · exact Det.ret _ _
    · exact Det.false
  · refine Det.cond ?_ Det.false
    split
    · unfold lenVC
      split <;> first | exact Det.ret _ _ | exact Det.false | (split <;> first | exact Det.need (Det.ret _ _) | exact Det.false)
    · unfold slenVC
      split <;> first | exact Det.ret _ _ | exact Det.false
    · exact Det.false
  · refine Det.cond ?_ Det.false
    unfold appendVC
    split
    · refine Det.cond ?_ Det.false
      refine Det.conts fun xs => ?_
      split
      · split <;> first | exact Det.need (Det.ret _ _) | exact Det.false
      · split <;> first | exact Det.need (Det.ret _ _) | exact Det.false
      · split <;> first | exact Det.need (Det.ret _ _) | exact Det.false
      · exact Det.false
    · exact Det.false
  · unfold maxminVC
    split <;> first | exact Det.ret _ _ | exact Det.false
  · unfold maxminVC
    split <;> first | exact Det.ret _ _ | exact Det.false
  · exact Det.false

theorem det_recvL (σ : St) (d : Nat) (rs : List V) : ∀ (j : Nat) (ro : Option (Nat × Nat)) (Φ : List V → List Mod → VK → Prop), (∀ vs ms, Det (Φ vs ms)) → Det (fun K => recvL σ d rs j ro fun vs ms => Φ vs ms K) := by
  induction rs with
  | nil => intro j ro Φ h; exact h [] []
  | cons y r ih =>
    intro j ro Φ h
    simp only [recvL_cons]
    split
    · split
      · exact ih _ _ (fun vs ms K => Φ _ _ K) fun vs ms => h _ _
      · split
        · exact ih _ _ (fun vs ms K => Φ _ _ K) fun vs ms => h _ _
        · exact Det.false
    · split
      · exact ih _ _ (fun vs ms K => Φ _ _ K) fun vs ms => h _ _
      · split
        · exact ih _ _ (fun vs ms K => Φ _ _ K) fun vs ms => h _ _
        · exact Det.false
    · exact Det.force fun y => ih _ _ (fun vs ms K => Φ _ _ K) fun vs ms => h _ _

theorem det_recvK (σ : St) (d : Nat) (ro : Option (Nat × Nat)) (r : V) (f : List Mod → List Mod) : Det (fun K => recvK σ d ro r fun v ms => K v (f ms)) := by
  unfold recvK
  split
  · exact det_recvL _ _ _ _ _ (fun vs ms K => K (.tup vs) (f ms)) fun vs ms => Det.ret _ _
  · refine det_recvL _ _ _ _ _ (fun vs ms K => match vs with | v :: _ => K v (f ms) | [] => False) fun vs ms => ?_
    cases vs with
    | nil => exact Det.false
    | cons v r => exact Det.ret _ _

theorem det_backA {ar : Nat → Option AE} {ok : List Nat} {N : Nat} {kd : AK} {e : TypeId} {l : List V} {x : V} {Φ : V → Mod → VK → Prop} (h : ∀ v m, Det (Φ v m)) : Det (fun K => backA ar ok N kd e l x fun v m => Φ v m K) := by
  unfold backA
  split
  · split
    · split
      · exact h _ _
      · exact Det.false
    · split
      · exact h _ _
      · exact Det.false
  · split
    · exact h _ _
    · exact Det.false
theorem det_backL (ar : Nat → Option AE) (is ok : List Nat) (ys : List V) : ∀ (xs : List V) (N : Nat) (Φ : List V → List Mod → VK → Prop), (∀ vs ms, Det (Φ vs ms)) → Det (fun K => backL ar is ok ys xs N fun vs ms => Φ vs ms K) := by
  induction ys with
  | nil =>
    intro xs N Φ h
    cases xs with
    | nil => exact h [] []
    | cons x r => exact Det.false
  | cons y r ih =>
    intro xs N Φ h
    cases xs with
    | nil => exact Det.false
    | cons x xr =>
      simp only [backL_cons]
      split
      · exact det_backA (Φ := fun v m K => backL ar is ok r xr (N + 1000) fun vs ms => Φ (v :: vs) (m :: ms) K) fun v m => ih _ _ (fun vs ms K => Φ _ _ K) fun vs ms => h _ _
      · exact det_backA (Φ := fun v m K => backL ar is ok r xr (N + 1000) fun vs ms => Φ (v :: vs) (m :: ms) K) fun v m => ih _ _ (fun vs ms K => Φ _ _ K) fun vs ms => h _ _
      · exact Det.force fun y => ih _ _ (fun vs ms K => Φ _ _ K) fun vs ms => h _ _
theorem det_backB (bx : Nat → Option (List V)) (ar : Nat → Option AE) (is0 ok : List Nat) (bs : List (List V)) : ∀ (is : List Nat) (N : Nat) (Φ : List Mod → VK → Prop), (∀ ms, Det (Φ ms)) → Det (fun K => backB bx ar is0 ok bs is N fun ms => Φ ms K) := by
  induction bs with
  | nil =>
    intro is N Φ h
    cases is with
    | nil => exact h []
    | cons x r => exact Det.false
  | cons b r ih =>
    intro is N Φ h
    cases is with
    | nil => exact Det.false
    | cons i ir =>
      simp only [backB_cons]
      split
      · exact det_backL _ _ _ _ _ _ (fun vs ms K => backB bx ar is0 ok r ir (N + 1000000) fun ns => Φ (appR ms (.b i vs :: ns)) K) fun vs ms => ih _ _ (fun ns K => Φ _ K) fun ns => h _
      · exact Det.false
theorem det_backK (bx : Nat → Option (List V)) (ar : Nat → Option AE) (is ok : List Nat) (d : Nat) (r : V) (bs : List (List V)) (f : List Mod → List Mod) : Det (fun K => backK bx ar is ok d r bs fun v ms => K v (f ms)) := by
  unfold backK
  split
  · exact det_backL _ _ _ _ _ _ (fun vs ms K => backB bx ar is ok bs is (d + 1000000) fun ns => K (.tup vs) (f (appR ms ns))) fun vs ms => det_backB _ _ _ _ _ _ _ (fun ns K => K _ _) fun ns => Det.ret _ _
  · refine det_backL _ _ _ _ _ _ (fun vs ms K => match vs with | v :: _ => backB bx ar is ok bs is (d + 1000000) fun ns => K v (f (appR ms ns)) | [] => False) fun vs ms => ?_
    cases vs with
    | nil => exact Det.false
    | cons v r => exact det_backB _ _ _ _ _ _ _ (fun ns K => K _ _) fun ns => Det.ret _ _

theorem det_call (T : Tab) (P : Program) (light : Md) (σ : St) (d : Nat) (f : FuncId) (xs : List V) : Det (callVC T P light σ d f xs) := by
  intro K h
  rcases h.out with ⟨ys, r, lend, h1, h2, h3, h4⟩ | ⟨h0, ys, r, j, k, g, e, l, l', h1, h2, h3, h4, h5, h6, h7⟩ | ⟨ys, is, bs, r, bs', h0, h1, h2, h3, h4⟩
  case inr.inl => exact ⟨r, _, h7, fun K' hk => ⟨.inr (.inl ⟨h0, ys, r, j, k, g, e, l, l', h1, h2, h3, h4, h5, h6, hk⟩)⟩⟩
  case inr.inr =>
    obtain ⟨v, ms, q1, q2⟩ := det_backK σ.bx σ.ar is (ownG ((xs, ys) :: grpsR σ.bx bs is)) d r bs' (fun ms => appR (frzMods σ (viewG ((xs, ys) :: grpsR σ.bx bs is))) (appR (deadMods σ (ownG ((xs, ys) :: grpsR σ.bx bs is))) ms)) K h4
    exact ⟨v, ms, q1, fun K' hk => ⟨.inr (.inr ⟨ys, is, bs, r, bs', h0, h1, h2, h3, q2 K' hk⟩)⟩⟩
  obtain ⟨v, ms, q1, q2⟩ := det_recvK σ d (reuse σ (ownKeys ys xs)) r (fun ms => appR (cond lend [] (frzMods σ (viewKeys ys xs))) (appR (deadMods σ (ownKeys ys xs)) ms)) K h4
  refine ⟨v, ms, q1, fun K' hk => ?_⟩
  refine ⟨.inl ?_⟩
  exact ⟨ys, r, lend, h1, h2, h3, q2 K' hk⟩

theorem det_oper' (T : Tab) (P : Program) (light : Md) (σ : St) (d : Nat) (op : Op) : Det (operVC T P light σ d op) ∨ (light = .free ∧ ∃ bop t c l, ∀ K, operVC T P light σ d op K = nilVC T bop t c l K) := by
  unfold operVC
  split
  · exact .inl (Det.forceL fun xs => det_call _ _ _ _ _ _ _)
  · refine .inl ?_
    split
    · exact Det.forceL fun xs => det_call _ _ _ _ _ _ _
    · exact Det.false
  · refine .inl ?_
    have shift : ∀ (σ1 : St) (o : Op) (m : Mod), Det (fun K => opVC T σ1 d o fun v ms => K v (m :: ms)) := fun σ1 o m K h => by
      obtain ⟨v, ms, q1, q2⟩ := det_op T σ1 d o _ h
      exact ⟨v, m :: ms, q1, fun K' hk => q2 _ hk⟩
    split
    · split
      · exact shift _ _ _
      · exact shift _ _ _
      · exact det_op _ _ _ _
    · exact det_op _ _ _ _
  · split
    · exact .inr ⟨rfl, _, _, _, _, fun K => rfl⟩
    · exact .inl (det_op _ _ _ _)
  · exact .inl (det_op _ _ _ _)

theorem det_oper (T : Tab) (P : Program) (hv : List (Nat × List Nat)) (σ : St) (d : Nat) (op : Op) : Det (operVC T P (.drawn hv) σ d op) := by
  rcases det_oper' T P (.drawn hv) σ d op with h | ⟨h, _⟩
  · exact h
  · cases h

theorem oper_mono {T : Tab} {P : Program} {light : Md} {σ : St} {d : Nat} {op : Op} {K1 K2 : VK} (hk : ∀ v ms, K1 v ms → K2 v ms) (h : operVC T P light σ d op K1) : operVC T P light σ d op K2 := by
  rcases det_oper' T P light σ d op with hd | ⟨_, bop, t, c, l, he⟩
  · obtain ⟨v, ms, q1, q2⟩ := hd K1 h
    exact q2 K2 (hk v ms q1)
  · rw [he] at h ⊢
    exact ⟨h.c0, h.ty, h.kd, h.op, fun b hb => hk _ _ (h.out b hb)⟩

end Go.Ab
namespace Go.Ab

def Is (v : V) (ms : List Mod) : VK := fun v' ms' => v' = v ∧ ms' = ms
def Mod.same (σ σ' : St) : Mod → Prop
  | .b i _ => σ'.bx i = σ.bx i
  | .a k _ => σ'.ar k = σ.ar k
def Mod.fresh (σ : St) : Mod → Prop
  | .b i _ => σ.bx i = none
  | .a k _ => σ.ar k = none
def Mod.key (p : Nat → Prop) (q : Nat → Nat → Prop) : Mod → Prop
  | .b i _ => p i
  | .a k _ => ∃ g, q k g

abbrev V.agr (σ σ' : St) (x : V) : Prop := x.ok (fun i => σ'.bx i = σ.bx i) (fun k _ => σ'.ar k = σ.ar k)

section
variable {T : Tab} {P : Program} {σ σ' : St} {d : Nat} {v : V} {ms : List Mod}

theorem loc_newBox {cs : List V} (hm : ∀ m ∈ ms, m.same σ σ') (h : newBox σ d cs (Is v ms)) : newBox σ' d cs (Is v ms) := by
  unfold newBox at *
  split at h
  · rename_i hb
    have h' := h
    rw [forceL_eq] at h'
    obtain ⟨_, h2⟩ := cond_F h'
    have := hm (.b d cs) (by rw [← h2.2]; simp)
    rw [show σ'.bx d = none from this.trans hb]
    exact h
  · exact h.elim

theorem loc_load {r : Row} {x : V} (hx : x.agr σ σ') (h : loadVC r σ x (Is v ms)) : loadVC r σ' x (Is v ms) := by
  unfold loadVC at *
  cases x <;> simp only at h ⊢
  case box i off => simp only [V.agr, V.ok] at hx; rw [hx]; exact h
  case fp cs => exact h
  case ae k g sz i off => simp only [V.agr, V.ok] at hx; rw [hx]; exact h

theorem loc_store {r : Row} {x y : V} (hx : x.agr σ σ') (h : storeVC r σ x y (Is v ms)) : storeVC r σ' x y (Is v ms) := by
  unfold storeVC at *
  cases x <;> simp only at h ⊢
  case box i off => simp only [V.agr, V.ok] at hx; rw [hx]; exact h
  case ae k g sz i off => simp only [V.agr, V.ok] at hx; rw [hx]; exact h

theorem loc_indexAddr {r : Row} {x i : V} (hx : x.agr σ σ') (h : indexAddrVC T r σ x i (Is v ms)) : indexAddrVC T r σ' x i (Is v ms) := by
  cases x
  case arr k g =>
    simp only [V.agr, V.ok] at hx
    unfold indexAddrVC at *
    simp only [hx] at h ⊢
    exact h
  all_goals exact h

theorem loc_conts {x : V} {K : List V → Prop} (hx : x.agr σ σ') (h : conts σ x K) : conts σ' x K := by
  unfold conts at h
  split at h
  · exact h
  · exact h
  · exact h
  · rename_i k g
    simp only [V.agr, V.ok] at hx
    unfold conts
    simp only [hx]
    exact h
  · exact h.elim

theorem loc_contsF {x : V} {K : List V → Prop} (hx : x.agr σ σ') (h : contsF σ x K) : contsF σ' x K := by
  unfold contsF at h
  split at h
  · exact h
  · exact h
  · exact h
  · rename_i k g
    simp only [V.agr, V.ok] at hx
    unfold contsF
    simp only [hx]
    exact h
  · exact h.elim

theorem loc_len {x : V} (hx : x.agr σ σ') (h : lenVC σ x (Is v ms)) : lenVC σ' x (Is v ms) := by
  unfold lenVC at h
  split at h
  · exact h
  · exact h
  · exact h
  · rename_i k g
    simp only [V.agr, V.ok] at hx
    unfold lenVC
    simp only [hx]
    exact h
  · exact h.elim

theorem loc_slice {r : Row} {x : V} {lo hi mx : Option V} (hx : x.agr σ σ') (h : sliceVC T r σ x lo hi mx (Is v ms)) : sliceVC T r σ' x lo hi mx (Is v ms) := by
  unfold sliceVC at *
  split at h
  · exact h
  · rename_i hkd
    obtain ⟨h1, h2⟩ := cond_F h
    have h3 := loc_contsF hx h2
    rw [h1]; exact h3
  · exact h.elim

theorem loc_fillK {place : Nat → Option (Nat × Nat)} {ps : List (Nat × Operand)} : ∀ {cs : List V} {K : List V → Prop}, (∀ p ∈ ps, σ'.ev p.2 = σ.ev p.2) → fillK place σ ps cs K → fillK place σ' ps cs K := by
  induction ps with
  | nil => intro cs K _ h; exact h
  | cons p r ih =>
    intro cs K he h
    have hdef : ∀ (σ : St) K, fillK place σ (p :: r) cs K = (match place p.1 with
      | some (o, z) => cond (Nat.beq (lenR (σ.ev p.2).cells) z && Nat.ble (o + z) (lenR cs) && allR V.one (σ.ev p.2).cells) (fillK place σ r (splice cs o (σ.ev p.2).cells) K) False
      | none => False) := fun σ K => rfl
    rw [hdef] at h ⊢
    rw [he p (by simp)]
    split at h
    · obtain ⟨h1, h2⟩ := cond_F h
      simp only [h1]
      exact ih (fun q hq => he q (by simp [hq])) h2
    · exact h.elim

theorem loc_fillK_p {place : Nat → Option (Nat × Nat)} {ps : List (Nat × Operand)} : ∀ {cs : List V} {K : List V → Prop}, fillK place σ ps cs K → ∃ cs', K cs' := by
  induction ps with
  | nil => intro cs K h; have h' : forceL cs K := h; rw [forceL_eq] at h'; exact ⟨_, h'⟩
  | cons p r ih =>
    intro cs K h
    have hdef : ∀ (σ : St) K, fillK place σ (p :: r) cs K = (match place p.1 with
      | some (o, z) => cond (Nat.beq (lenR (σ.ev p.2).cells) z && Nat.ble (o + z) (lenR cs) && allR V.one (σ.ev p.2).cells) (fillK place σ r (splice cs o (σ.ev p.2).cells) K) False
      | none => False) := fun σ K => rfl
    rw [hdef] at h
    split at h
    · obtain ⟨h1, h2⟩ := cond_F h
      exact ih h2
    · exact h.elim

theorem loc_build {r : Row} {ps : List (Nat × Operand)} (he : ∀ p ∈ ps, σ'.ev p.2 = σ.ev p.2) (h : buildVC T r σ ps (Is v ms)) : buildVC T r σ' ps (Is v ms) := by
  unfold buildVC at *
  split at h
  · exact loc_fillK he h
  · obtain ⟨h1, h2⟩ := cond_F h
    rw [h1]
    exact loc_fillK he h2
  · exact h.elim

theorem loc_buildSlice {r : Row} {n : Nat} {ps : List (Nat × Operand)} (he : ∀ p ∈ ps, σ'.ev p.2 = σ.ev p.2) (hm : ∀ m ∈ ms, m.same σ σ') (h : buildSliceVC T r σ d n ps (Is v ms)) : buildSliceVC T r σ' d n ps (Is v ms) := by
  unfold buildSliceVC at *
  split at h
  · rename_i hkd hd
    obtain ⟨h1, h2⟩ := cond_F h
    obtain ⟨cs', h3⟩ := loc_fillK_p h2
    obtain ⟨_, _, h4⟩ := cond_F h3
    have := hm _ (by rw [← h4]; exact List.mem_singleton.2 rfl)
    simp only [show σ'.ar d = none from this.trans hd, hkd]
    rw [h1]
    exact loc_fillK he h2
  · exact h.elim

theorem loc_makeSlice {r : Row} {n c : V} (hm : ∀ m ∈ ms, m.same σ σ') (h : makeSliceVC T r σ d n c (Is v ms)) : makeSliceVC T r σ' d n c (Is v ms) := by
  unfold makeSliceVC at *
  split at h
  · rename_i hkd hd
    have h' := (need_p h).2
    obtain ⟨_, _, h4⟩ := cond_F h'
    have := hm _ (by rw [← h4]; exact List.mem_singleton.2 rfl)
    simp only [show σ'.ar d = none from this.trans hd, hkd]
    exact h
  · exact h.elim

theorem conts_p {x : V} {K : List V → Prop} (h : conts σ x K) : ∃ l, K l := by
  unfold conts at h
  split at h
  · exact ⟨_, h⟩
  · exact ⟨_, h⟩
  · exact ⟨_, h⟩
  · split at h
    · exact ⟨_, (need_p h).2⟩
    · exact h.elim
  · exact h.elim

theorem contsF_p {x : V} {K : List V → Prop} (h : contsF σ x K) : ∃ l, K l := by
  unfold contsF at h
  split at h
  · exact ⟨_, h⟩
  · exact ⟨_, h⟩
  · exact ⟨_, h⟩
  · split at h
    · exact ⟨_, (need_p h).2⟩
    · exact h.elim
  · exact h.elim

theorem conts_mono {x : V} {K K' : List V → Prop} (hk : ∀ l, K l → K' l) (h : conts σ x K) : conts σ x K' := by
  unfold conts at *
  split at h
  · exact hk _ h
  · exact hk _ h
  · exact hk _ h
  · split at h
    · obtain ⟨h1, h2⟩ := need_p h
      refine ⟨?_⟩
      exact ⟨h1, hk _ h2⟩
    · exact h.elim
  · exact h.elim

theorem loc_append {r : Row} {s x : V} (hs : s.agr σ σ') (hx : x.agr σ σ') (hm : ∀ m ∈ ms, m.same σ σ') (h : appendVC T r σ d s x (Is v ms)) : appendVC T r σ' d s x (Is v ms) := by
  unfold appendVC at *
  split at h
  · rename_i hkd
    obtain ⟨h1, h2⟩ := cond_F h
    rw [h1]
    refine loc_conts hx (conts_mono (fun xs h => ?_) h2)
    split at h
    · split at h
      · rename_i hd
        obtain ⟨_, _, h4⟩ := need_p h
        have := hm _ (by rw [← h4]; exact List.mem_singleton.2 rfl)
        simp only [show σ'.ar d = none from this.trans hd]
        exact h
      · exact h.elim
    · split at h
      · rename_i hd
        obtain ⟨_, _, h4⟩ := need_p h
        have := hm _ (by rw [← h4]; exact List.mem_singleton.2 rfl)
        simp only [show σ'.ar d = none from this.trans hd]
        exact h
      · exact h.elim
    · rename_i k g
      simp only [V.agr, V.ok] at hs
      simp only [hs]
      exact h
    · exact h.elim
  · exact h.elim
end
end Go.Ab
namespace Go.Ab
section
variable {T : Tab} {P : Program} {σ σ' : St} {d : Nat} {v : V} {ms : List Mod}

theorem mapR_congr {α β : Type} {f g : α → β} {l : List α} (h : ∀ x ∈ l, f x = g x) : mapR f l = mapR g l := by
  rw [mapR_eq, mapR_eq]; exact List.map_congr_left h

theorem loc_op {op : Op} (he : ∀ x ∈ op.operands, σ'.ev x = σ.ev x) (ha : 1 < cls op → ∀ x ∈ op.operands, (σ.ev x).agr σ σ') (hm : ∀ m ∈ ms, m.same σ σ') (h : opVC T σ d op (Is v ms)) : opVC T σ' d op (Is v ms) := by
  unfold opVC at h
  split at h <;> unfold opVC <;> simp only
  · rw [he _ (by simp [Op.operands])]; exact h
  · rw [he _ (by simp [Op.operands])]; exact h
  · rename_i c a b
    rw [he c (by simp [Op.operands]), he a (by simp [Op.operands]), he b (by simp [Op.operands])]; exact h
  · rw [he _ (by simp [Op.operands])]; exact h
  · rename_i x y _
    rw [he x (by simp [Op.operands]), he y (by simp [Op.operands])]; exact h
  · rw [he _ (by simp [Op.operands])]; exact loc_newBox hm h
  · obtain ⟨h1, h2⟩ := cond_F h
    rw [h1]; exact loc_newBox hm h2
  · rw [he _ (by simp [Op.operands])]; exact h
  · rw [he _ (by simp [Op.operands])]; exact h
  · rename_i x
    obtain ⟨h1, h2⟩ := cond_F h
    rw [h1, he x (by simp [Op.operands])]
    exact loc_load (ha (by simp only [cls]; decide) x (by simp [Op.operands])) h2
  · rename_i x y
    obtain ⟨h1, h2⟩ := cond_F h
    rw [h1, he x (by simp [Op.operands]), he y (by simp [Op.operands])]
    exact loc_store (ha (by simp only [cls]; decide) x (by simp [Op.operands])) h2
  · rename_i x y
    obtain ⟨h1, h2⟩ := cond_F h
    rw [h1, he x (by simp [Op.operands]), he y (by simp [Op.operands])]
    exact loc_indexAddr (ha (by simp only [cls]; decide) x (by simp [Op.operands])) h2
  · rename_i x y
    rw [he x (by simp [Op.operands]), he y (by simp [Op.operands])]; exact h
  · rw [he _ (by simp [Op.operands])]; exact h
  · exact h
  · rename_i ps
    obtain ⟨h1, h2⟩ := cond_F h
    rw [h1]
    refine loc_build (fun p hp => he p.2 ?_) h2
    have hp := (Array.mem_toList_iff.1 hp)
    simp [Op.operands]
    exact ⟨p.1, hp⟩
  · rename_i ps
    obtain ⟨h1, h2⟩ := cond_F h
    rw [h1]
    refine loc_buildSlice (fun p hp => he p.2 ?_) hm h2
    have hp := (Array.mem_toList_iff.1 hp)
    simp [Op.operands]
    exact ⟨p.1, hp⟩
  · rename_i x y
    obtain ⟨h1, h2⟩ := cond_F h
    rw [h1, he x (by simp [Op.operands]), he y (by simp [Op.operands])]
    exact loc_makeSlice hm h2
  · rename_i x lo hi mx
    obtain ⟨h1, h2⟩ := cond_F h
    have hl : lo.map σ'.ev = lo.map σ.ev := by
      cases lo with
      | none => rfl
      | some y => simp [he y (by simp [Op.operands])]
    have hh : hi.map σ'.ev = hi.map σ.ev := by
      cases hi with
      | none => rfl
      | some y => simp [he y (by simp [Op.operands])]
    have hx : mx.map σ'.ev = mx.map σ.ev := by
      cases mx with
      | none => rfl
      | some y => simp [he y (by simp [Op.operands])]
    rw [h1, he x (by simp [Op.operands]), hl, hh, hx]
    exact loc_slice (ha (by simp only [cls]; decide) x (by simp [Op.operands])) h2
  · rename_i x
    rw [he x (by simp [Op.operands])]
    unfold conv2VC at h ⊢
    split at h
    · obtain ⟨h1, h2⟩ := cond_F h
      rw [h1]
      exact loc_conts (ha (by simp only [cls]; decide) x (by simp [Op.operands])) h2
    · exact h
  · rename_i x t
    obtain ⟨h1, h2⟩ := cond_F h
    rw [h1, he x (by simp [Op.operands, Call.operands])]
    split at h2
    · exact loc_len (ha (by simp only [cls]; decide) x (by simp [Op.operands, Call.operands])) h2
    · exact h2
    · exact h2.elim
  · rename_i s x t t'
    obtain ⟨h1, h2⟩ := cond_F h
    rw [h1, he x (by simp [Op.operands, Call.operands]), he s (by simp [Op.operands, Call.operands])]
    exact loc_append (ha (by simp only [cls]; decide) s (by simp [Op.operands, Call.operands])) (ha (by simp only [cls]; decide) x (by simp [Op.operands, Call.operands])) hm h2
  · rw [mapR_congr (g := σ.ev) fun x hx => he x (by simp [Op.operands, Call.operands, hx])]; exact h
  · rw [mapR_congr (g := σ.ev) fun x hx => he x (by simp [Op.operands, Call.operands, hx])]; exact h
  · exact h.elim


/-- all ends meet R -/
def Mo (R : List Mod → Prop) (Φ : VK → Prop) : Prop := ∀ K, Φ K → ∃ v ms, K v ms ∧ R ms

variable {R : List Mod → Prop}
theorem Mo.ret (v : V) {ms : List Mod} (h : R ms) : Mo R (fun K => K v ms) := fun _ hk => ⟨v, ms, hk, h⟩
theorem Mo.false : Mo R (fun _ => False) := fun _ h => h.elim
theorem Mo.need {p : Prop} {Φ : VK → Prop} (h : p → Mo R Φ) : Mo R (fun K => need p (Φ K)) := fun K hk => h (need_p hk).1 K (need_p hk).2
theorem Mo.arith {k : IntKind} {n : Int} {Φ : Int → VK → Prop} (h : ∀ m, Mo R (Φ m)) : Mo R (fun K => arith k n fun m => Φ m K) := fun K hk => h _ K (arith_p hk)
theorem Mo.idx {l : List V} {i : Nat} {Φ : V → VK → Prop} (h : ∀ x, Mo R (Φ x)) : Mo R (fun K => idx l i fun x => Φ x K) := fun K hk => by
  obtain ⟨x, hx, hk⟩ := idx_p hk
  exact h x K hk
theorem Mo.bytes {xs : List V} {Φ : List Int → VK → Prop} (h : ∀ ns, Mo R (Φ ns)) : Mo R (fun K => bytesVC xs fun ns => Φ ns K) := fun K hk => by
  obtain ⟨ns, hx, hk⟩ := bytes_p hk
  exact h ns K hk
theorem Mo.force {x : V} {Φ : V → VK → Prop} (h : ∀ x, Mo R (Φ x)) : Mo R (fun K => force x fun y => Φ y K) := fun K hk => by
  have hk' : Ab.force x (fun y => Φ y K) := hk
  rw [force_eq] at hk'
  exact h x K hk'
theorem Mo.forceL {l : List V} {Φ : List V → VK → Prop} (h : ∀ l, Mo R (Φ l)) : Mo R (fun K => forceL l fun y => Φ y K) := fun K hk => by
  have hk' : Ab.forceL l (fun y => Φ y K) := hk
  rw [forceL_eq] at hk'
  exact h l K hk'
theorem Mo.cond {b : Bool} {Φ Ψ : VK → Prop} (h : Mo R Φ) (h' : Mo R Ψ) : Mo R (fun K => cond b (Φ K) (Ψ K)) := by
  cases b
  · exact h'
  · exact h
theorem Mo.branch {b : Bool} {Φ Ψ : VK → Prop} (h : Mo R Φ) (h' : Mo R Ψ) : Mo R (fun K => branch b (Φ K) (Ψ K)) := by
  cases b
  · exact h'
  · exact h
theorem Mo.conts {x : V} {Φ : List V → VK → Prop} (h : ∀ l, Mo R (Φ l)) : Mo R (fun K => conts σ x fun l => Φ l K) := fun K hk => by
  obtain ⟨l, hl⟩ := conts_p (K := fun l => Φ l K) hk
  exact h l K hl
theorem Mo.contsF {x : V} {Φ : List V → VK → Prop} (h : ∀ l, Mo R (Φ l)) : Mo R (fun K => contsF σ x fun l => Φ l K) := fun K hk => by
  obtain ⟨l, hl⟩ := contsF_p (K := fun l => Φ l K) hk
  exact h l K hl
theorem Mo.bound {o : Option V} {dflt : Int} {Φ : Int → VK → Prop} (h : ∀ n, Mo R (Φ n)) : Mo R (fun K => bound o dflt fun n => Φ n K) := fun K hk => by
  unfold Ab.bound at hk
  split at hk
  · exact h _ K hk
  · exact h _ K hk
  · exact hk.elim
theorem mo_pickK (hn : R []) (r : Row) (cs : List V) : Mo R (pickK r cs) := by
  unfold pickK
  cases r.agg with
  | true => exact Mo.forceL fun l => Mo.cond (Mo.ret _ hn) Mo.false
  | false =>
    cases cs with
    | nil => exact Mo.false
    | cons x r => exact Mo.force fun v => Mo.ret _ hn
theorem Mo.fillK {place : Nat → Option (Nat × Nat)} {ps : List (Nat × Operand)} {cs : List V} {Φ : List V → VK → Prop} (h : ∀ l, Mo R (Φ l)) : Mo R (fun K => fillK place σ ps cs fun l => Φ l K) := fun K hk => by
  obtain ⟨l, hl⟩ := loc_fillK_p (K := fun l => Φ l K) hk
  exact h l K hl
theorem mo_newBox (hf : ∀ cs, σ.bx d = none → R [.b d cs]) (cs : List V) : Mo R (newBox σ d cs) := by
  unfold newBox
  split
  · rename_i hb
    exact Mo.forceL fun l => Mo.cond (Mo.ret _ (hf l hb)) Mo.false
  · exact Mo.false

/-- where an operation changes something: what is new, or what a store or an append names -/
def Fr1 (σ : St) (op : Op) (m : Mod) : Prop := m.fresh σ ∨ (4 ≤ cls op ∧ ∀ p q, (∀ x ∈ op.operands, (σ.ev x).ok p q) → m.key p q)

theorem mods_op (T : Tab) (σ : St) (d : Nat) (o : Op) : Mo (fun ms => ∀ m ∈ ms, Fr1 σ o m) (opVC T σ d o) := by
  have hn : ∀ m ∈ ([] : List Mod), Fr1 σ o m := fun m hm => by cases hm
  have h1 : ∀ m0 : Mod, Fr1 σ o m0 → ∀ m ∈ [m0], Fr1 σ o m := fun m0 hm m h => by cases List.mem_singleton.1 h; exact hm
  unfold opVC
  split
  · exact Mo.force fun v => Mo.ret _ hn
  · exact Mo.force fun v => Mo.ret _ hn
  · unfold pickVC
    split
    · exact Mo.branch (Mo.force fun v => Mo.ret _ hn) (Mo.force fun v => Mo.ret _ hn)
    · exact Mo.false
  · unfold unVC
    split
    · exact Mo.ret _ hn
    · exact Mo.arith fun m => Mo.ret _ hn
    · exact Mo.false
  · unfold binVC
    split
    · refine Mo.cond ?_ Mo.false
      unfold intVC
      split <;> first | exact Mo.arith fun m => Mo.ret _ hn | exact Mo.need (fun hp => Mo.arith fun m => Mo.ret _ hn) | exact Mo.need (fun hp => Mo.ret _ hn) | exact Mo.ret _ hn | exact Mo.false
    · unfold strVC
      split <;> first | exact Mo.need (fun hp => Mo.ret _ hn) | exact Mo.ret _ hn | exact Mo.false
    · refine Mo.cond ?_ Mo.false
      unfold boolVC
      split <;> first | exact Mo.ret _ hn | exact Mo.false
    · refine Mo.cond ?_ Mo.false
      unfold aggVC
      split
      · refine Mo.need fun _ => ?_
        split <;> first | exact Mo.ret _ hn | exact Mo.false
      · refine Mo.need fun _ => ?_
        split <;> first | exact Mo.ret _ hn | exact Mo.false
      · exact Mo.false
    · exact Mo.false
  · exact mo_newBox (σ := σ) (d := d) (fun cs hb => h1 (.b d cs) (.inl hb)) _
  · exact Mo.cond (mo_newBox (σ := σ) (d := d) (fun cs hb => h1 (.b d cs) (.inl hb)) _) Mo.false
  · refine Mo.cond ?_ Mo.false
    unfold fieldAddrVC
    split
    · refine Mo.cond Mo.false ?_
      split
      · exact Mo.ret _ hn
      · exact Mo.forceL fun l => Mo.ret _ hn
      · exact Mo.ret _ hn
      · exact Mo.false
    · exact Mo.false
  · refine Mo.cond ?_ Mo.false
    unfold fieldVC
    split
    · exact Mo.cond (mo_pickK hn _ _) Mo.false
    · exact Mo.false
  · refine Mo.cond ?_ Mo.false
    unfold loadVC
    split
    · split
      · exact mo_pickK hn _ _
      · exact Mo.false
    · exact mo_pickK hn _ _
    · split
      · exact Mo.need (fun hp => Mo.idx fun x => Mo.cond (mo_pickK hn _ _) Mo.false)
      · exact Mo.false
    · exact Mo.false
  · refine Mo.cond ?_ Mo.false
    unfold storeVC
    rename_i x0 y0
    split
    · rename_i i off hx
      split
      · refine Mo.cond (Mo.forceL fun l => Mo.ret _ (h1 (.b i l) (.inr ⟨by simp only [cls]; decide, fun p q hok => ?_⟩))) Mo.false
        have := hok x0 (by simp [Op.operands])
        rw [hx] at this
        simp only [V.ok] at this
        exact this
      · exact Mo.false
    · rename_i k g sz i off hx
      split
      · refine Mo.need (fun hp => Mo.idx fun x => Mo.cond (Mo.forceL fun l => Mo.ret _ (h1 (.a k _) (.inr ⟨by simp only [cls]; decide, fun p q hok => ?_⟩))) Mo.false)
        have := hok x0 (by simp [Op.operands])
        rw [hx] at this
        simp only [V.ok] at this
        exact ⟨g, this⟩
      · exact Mo.false
    · exact Mo.false
  · refine Mo.cond ?_ Mo.false
    unfold indexAddrVC
    split
    · split
      · exact Mo.need (fun hp => Mo.idx fun x => Mo.forceL fun l => Mo.cond (Mo.ret _ hn) Mo.false)
      · exact Mo.need (fun hp => Mo.idx fun x => Mo.forceL fun l => Mo.cond (Mo.ret _ hn) Mo.false)
      · split
        · exact Mo.need (fun hp => Mo.cond (Mo.ret _ hn) Mo.false)
        · exact Mo.false
      · exact Mo.false
    · split
      · exact Mo.cond (Mo.ret _ hn) Mo.false
      · exact Mo.cond (Mo.forceL fun l => Mo.ret _ hn) Mo.false
      · exact Mo.false
    · exact Mo.false
  · refine Mo.cond ?_ Mo.false
    unfold indexVC
    split
    · exact Mo.need (fun hp => Mo.ret _ hn)
    · exact Mo.cond (mo_pickK hn _ _) Mo.false
    · exact Mo.false
  · unfold extractVC
    split
    · split
      · exact Mo.force fun v => Mo.ret _ hn
      · exact Mo.false
    · exact Mo.false
  · exact Mo.ret _ hn
  · refine Mo.cond ?_ Mo.false
    unfold buildVC
    split
    · exact Mo.fillK (Φ := fun cs K => K (.agg cs) []) fun l => Mo.ret _ hn
    · exact Mo.cond (Mo.fillK (Φ := fun cs K => K (.agg cs) []) fun l => Mo.ret _ hn) Mo.false
    · exact Mo.false
  · refine Mo.cond ?_ Mo.false
    unfold buildSliceVC
    split
    · rename_i hd
      refine Mo.cond ?_ Mo.false
      exact Mo.fillK (Φ := fun cs K => cond (allR V.atom cs) (K _ _) False) fun l => Mo.cond (Mo.ret _ (h1 (.a d _) (.inl hd))) Mo.false
    · exact Mo.false
  · refine Mo.cond ?_ Mo.false
    unfold makeSliceVC
    split
    · rename_i hd _ _
      exact Mo.need (fun hp => Mo.cond (Mo.ret _ (h1 (.a d _) (.inl hd))) Mo.false)
    · exact Mo.false
  · refine Mo.cond ?_ Mo.false
    unfold sliceVC
    split
    · split
      · exact Mo.bound (Φ := fun l K => bound _ _ fun h => need _ (K _ _)) fun l => Mo.bound (Φ := fun h K => need _ (K _ _)) fun h => Mo.need (fun hp => Mo.ret _ hn)
      · exact Mo.false
    · refine Mo.cond ?_ Mo.false
      refine Mo.contsF fun xs => Mo.bound fun l => Mo.bound fun h => ?_
      split
      · exact Mo.need (fun hp => Mo.ret _ hn)
      · split
        · exact Mo.false
        · exact Mo.bound fun m => Mo.need (fun hp => Mo.ret _ hn)
    · exact Mo.false
  · unfold conv2VC
    split
    · exact Mo.cond (Mo.conts fun xs => Mo.bytes fun ns => Mo.ret _ hn) Mo.false
    unfold convVC
    split
    · exact Mo.arith fun m => Mo.ret _ hn
    · exact Mo.ret _ hn
    · exact Mo.false
  · refine Mo.cond ?_ Mo.false
    split
    · unfold lenVC
      split <;> first | exact Mo.ret _ hn | exact Mo.false | (split <;> first | exact Mo.need (fun hp => Mo.ret _ hn) | exact Mo.false)
    · unfold slenVC
      split <;> first | exact Mo.ret _ hn | exact Mo.false
    · exact Mo.false
  · refine Mo.cond ?_ Mo.false
    unfold appendVC
    rename_i s0 x0 t0 t1
    split
    · refine Mo.cond ?_ Mo.false
      refine Mo.conts fun xs => ?_
      split
      · split
        · rename_i hd
          exact Mo.need fun hp => Mo.ret _ (h1 (.a d _) (.inl hd))
        · exact Mo.false
      · split
        · rename_i hd
          exact Mo.need fun hp => Mo.ret _ (h1 (.a d _) (.inl hd))
        · exact Mo.false
      · rename_i k g hx
        split
        · refine Mo.need fun hp => Mo.ret _ (h1 (.a k _) (.inr ⟨by simp only [cls]; decide, fun p q hok => ?_⟩))
          have := hok s0 (by simp [Op.operands, Call.operands])
          rw [hx] at this
          simp only [V.ok] at this
          exact ⟨g, this⟩
        · exact Mo.false
      · exact Mo.false
    · exact Mo.false
  · unfold maxminVC
    split <;> first | exact Mo.ret _ hn | exact Mo.false
  · unfold maxminVC
    split <;> first | exact Mo.ret _ hn | exact Mo.false
  · exact Mo.false


theorem loc_recvL {rs : List V} : ∀ {j : Nat} {K : List V → List Mod → Prop}, recvL σ d rs j none K → ∃ vs ms, K vs ms ∧ (∀ m ∈ ms, m.fresh σ) ∧ ∀ σ' : St, (∀ m ∈ ms, m.same σ σ') → ∀ K' : List V → List Mod → Prop, K' vs ms → recvL σ' d rs j none K' := by
  induction rs with
  | nil => intro j K h; exact ⟨[], [], h, by simp, fun σ' _ K' h => h⟩
  | cons y r ih =>
    intro j K h
    rw [recvL_cons] at h
    split at h
    · simp only at h
      split at h
      · rename_i hd
        obtain ⟨vs, ms, h1, h2, h3⟩ := ih h
        refine ⟨_, _, h1, ?_, fun σ' hs K' hk => ?_⟩
        · intro m hm
          rcases List.mem_cons.1 hm with rfl | hm
          · exact hd
          · exact h2 m hm
        · rw [recvL_cons]
          simp only
          have h0 : σ'.ar (d + 1000 * j) = σ.ar (d + 1000 * j) := hs _ (List.mem_cons_self ..)
          rw [h0, hd]
          exact h3 σ' (fun m hm => hs m (List.mem_cons_of_mem _ hm)) _ hk
      · exact h.elim
    · simp only at h
      split at h
      · rename_i hd
        obtain ⟨vs, ms, h1, h2, h3⟩ := ih h
        refine ⟨_, _, h1, ?_, fun σ' hs K' hk => ?_⟩
        · intro m hm
          rcases List.mem_cons.1 hm with rfl | hm
          · exact hd
          · exact h2 m hm
        · rw [recvL_cons]
          simp only
          have h0 : σ'.ar (d + 1000 * j) = σ.ar (d + 1000 * j) := hs _ (List.mem_cons_self ..)
          rw [h0, hd]
          exact h3 σ' (fun m hm => hs m (List.mem_cons_of_mem _ hm)) _ hk
      · exact h.elim
    · rename_i hn1 hn2
      rw [force_eq] at h
      obtain ⟨vs, ms, h1, h2, h3⟩ := ih h
      refine ⟨_, _, h1, h2, fun σ' hs K' hk => ?_⟩
      rw [recvL_cons]
      split
      · exact (hn1 _ _ rfl).elim
      · exact (hn2 _ _ rfl).elim
      · rw [force_eq]; exact h3 σ' hs _ hk

theorem loc_recvK {r : V} {K : VK} (h : recvK σ d none r K) : ∃ v ms, K v ms ∧ (∀ m ∈ ms, m.fresh σ) ∧ ∀ σ' : St, (∀ m ∈ ms, m.same σ σ') → ∀ K' : VK, K' v ms → recvK σ' d none r K' := by
  unfold recvK at h
  split at h
  · obtain ⟨vs, ms, h1, h2, h3⟩ := loc_recvL h
    refine ⟨_, ms, h1, h2, fun σ' hs K' hk => ?_⟩
    unfold recvK
    exact h3 σ' hs _ hk
  · rename_i hnt
    obtain ⟨vs, ms, h1, h2, h3⟩ := loc_recvL h
    cases vs with
    | nil => exact h1.elim
    | cons v vr =>
      refine ⟨v, ms, h1, h2, fun σ' hs K' hk => ?_⟩
      unfold recvK
      split
      · exact (hnt _ rfl).elim
      · exact h3 σ' hs _ hk

theorem loc_view {x y : V} (hx : x.agr σ σ') (h : viewVC σ.ar x y) : viewVC σ'.ar x y := by
  unfold viewVC at *
  cases y <;> simp only at h ⊢
  case sl l =>
    split at h
    all_goals first | exact h | exact h.elim | skip
    simp only [V.agr, V.ok] at hx
    simp only [hx]; exact h
  all_goals exact h

theorem loc_viewL {ys : List V} : ∀ {xs : List V}, V.okL (fun i => σ'.bx i = σ.bx i) (fun k _ => σ'.ar k = σ.ar k) xs → viewL σ.ar ys xs → viewL σ'.ar ys xs := by
  induction ys with
  | nil => intro xs _ h; exact h
  | cons y r ih =>
    intro xs hx h
    cases xs with
    | nil => exact h
    | cons x xr =>
      simp only [V.okL] at hx
      exact ⟨loc_view hx.1 h.1, ih hx.2 h.2⟩

theorem loc_give {x y : V} (hx : x.agr σ σ') (h : giveVC T σ.ar x y) : giveVC T σ'.ar x y := by
  unfold giveVC at *
  cases y <;> simp only at h ⊢
  case own e l =>
    split at h
    all_goals first | exact h | exact h.elim | skip
    simp only [V.agr, V.ok] at hx
    simp only [hx]; exact h
  case ap e l =>
    split at h
    all_goals first | exact h | exact h.elim | skip
    simp only [V.agr, V.ok] at hx
    simp only [hx]; exact h
  case agg ys =>
    cases x <;> simp only at h ⊢
    case agg xs =>
      simp only [V.agr, V.ok] at hx
      exact loc_viewL hx h
  all_goals exact loc_view hx h

theorem loc_giveL {ys : List V} : ∀ {xs : List V}, (∀ x ∈ xs, x.agr σ σ') → giveL T σ.ar ys xs → giveL T σ'.ar ys xs := by
  induction ys with
  | nil => intro xs _ h; exact h
  | cons y r ih =>
    intro xs hx h
    cases xs with
    | nil => exact h
    | cons x xr => exact ⟨loc_give (hx x (by simp)) h.1, ih (fun z hz => hx z (by simp [hz])) h.2⟩

theorem light_call {hv : List (Nat × List Nat)} (hd : hvOf hv d = none) {f : FuncId} {xs : List V} {K : VK} (h : callVC T P (.drawn hv) σ d f xs K) : ∃ v ms, K v ms ∧ (∀ m ∈ ms, m.fresh σ) ∧ ∀ σ' : St, (∀ x ∈ xs, x.agr σ σ') → (∀ m ∈ ms, m.same σ σ') → ∀ K' : VK, K' v ms → callVC T P (.drawn hv) σ' d f xs K' := by
  rcases h.out with ⟨ys, r, lend, h1, h2, h3, h4⟩ | ⟨h0, _⟩ | ⟨_, _, _, _, _, h0, _⟩
  case inr.inl => cases h0
  case inr.inr =>
    unfold Md.may at h0
    simp only [hd] at h0
    cases h0
  have hc := h2
  simp only [callOk, Md.light, Bool.and_eq_true, cond_true, Bool.or_eq_true] at hc
  have ho : ownKeys ys xs = [] := by
    have := hc.2.1
    rw [Nat.beq_eq, lenR_eq] at this
    exact List.length_eq_zero_iff.1 this
  have hf : ∀ σ : St, cond lend [] (frzMods σ (viewKeys ys xs)) = [] := fun σ => by
    rcases hc.2.2 with h | h
    · rw [h]; rfl
    · rw [Nat.beq_eq, lenR_eq] at h
      rw [List.length_eq_zero_iff.1 h]
      cases lend <;> rfl
  have hk : ∀ (σ : St) (ms : List Mod), appR (cond lend [] (frzMods σ (viewKeys ys xs))) (appR (deadMods σ (ownKeys ys xs)) ms) = ms := fun σ ms => by
    rw [hf, ho]; rfl
  have hre : ∀ σ : St, reuse σ (ownKeys ys xs) = none := fun σ => by rw [ho]; rfl
  simp only [hk, hre] at h4
  obtain ⟨v, ms, q1, q2, q3⟩ := loc_recvK h4
  refine ⟨v, ms, q1, q2, fun σ' hx hm K' hk' => ?_⟩
  refine ⟨.inl ?_⟩
  refine ⟨ys, r, lend, loc_giveL hx h1, h2, h3, ?_⟩
  simp only [hk, hre]
  exact q3 σ' hm _ hk'

/-- a call looks at the variables and slices alone -/
theorem call_env {m : Md} {f : FuncId} {xs : List V} {K : VK} (hb : σ'.bx = σ.bx) (ha : σ'.ar = σ.ar) (h : callVC T P m σ d f xs K) : callVC T P m σ' d f xs K := by
  obtain ⟨env, bx, ar⟩ := σ
  obtain ⟨env', bx', ar'⟩ := σ'
  simp only at hb ha
  subst hb ha
  exact ⟨h.out⟩
noncomputable def hvy (hv : List (Nat × List Nat)) (d : Nat) (op : Op) : Bool := isCallV op && isS (hvOf hv d)
theorem hvy_none {hv : List (Nat × List Nat)} {op : Op} (h : hvy hv d op = false) (hc : isCallV op = true) : hvOf hv d = none := by
  unfold hvy at h
  rw [hc, Bool.true_and] at h
  unfold isS at h
  cases hh : hvOf hv d with
  | none => rfl
  | some x => rw [hh] at h; cases h

theorem loc_oper {hv : List (Nat × List Nat)} {op : Op} (hh : hvy hv d op = true → σ'.bx = σ.bx ∧ σ'.ar = σ.ar) (he : ∀ x ∈ op.operands, σ'.ev x = σ.ev x) (ha : 1 < cls op → ∀ x ∈ op.operands, (σ.ev x).agr σ σ') (hm : ∀ m ∈ ms, m.same σ σ') (h : operVC T P (.drawn hv) σ d op (Is v ms)) : operVC T P (.drawn hv) σ' d op (Is v ms) := by
  unfold operVC at h
  split at h <;> unfold operVC
  · rename_i f as ts
    have hmap : mapR σ'.ev as = mapR σ.ev as := mapR_congr fun x hx => he x (by simp [Op.operands, Call.operands, hx])
    rw [forceL_eq] at h
    simp only
    rw [forceL_eq, hmap]
    cases hy0 : hvy hv d (.call ⟨.value (.func f), ⟨as⟩, ts⟩) with
    | true => exact call_env (hh hy0).1 (hh hy0).2 h
    | false =>
    obtain ⟨v', ms', ⟨rfl, rfl⟩, q2, q3⟩ := light_call (hvy_none hy0 rfl) h
    refine q3 σ' ?_ hm _ ⟨rfl, rfl⟩
    intro x hx
    rw [mapR_eq] at hx
    obtain ⟨y, hy, rfl⟩ := List.mem_map.1 hx
    exact ha (by simp only [cls]; decide) y (by simp [Op.operands, Call.operands, hy])
  · rename_i t as ts
    have hmap : mapR σ'.ev as = mapR σ.ev as := mapR_congr fun x hx => he x (by simp [Op.operands, Call.operands, hx])
    have het : σ'.env t = σ.env t := he (.tmp t) (by simp [Op.operands, Call.operands])
    simp only
    rw [het]
    split at h
    · rename_i g caps hfn
      rw [forceL_eq] at h
      rw [forceL_eq, hmap]
      cases hy0 : hvy hv d (.call ⟨.value (.tmp t), ⟨as⟩, ts⟩) with
      | true => exact call_env (hh hy0).1 (hh hy0).2 h
      | false =>
      obtain ⟨v', ms', ⟨rfl, rfl⟩, q2, q3⟩ := light_call (hvy_none hy0 rfl) h
      refine q3 σ' ?_ hm _ ⟨rfl, rfl⟩
      intro x hx
      rw [appR_eq, mapR_eq] at hx
      rcases List.mem_append.1 hx with hx | hx
      · obtain ⟨y, hy, rfl⟩ := List.mem_map.1 hx
        exact ha (by simp only [cls]; decide) y (by simp [Op.operands, Call.operands, hy])
      · have hag := ha (by simp only [cls]; decide) (.tmp t) (by simp [Op.operands, Call.operands])
        have hag' : (σ.env t).agr σ σ' := hag
        rw [hfn] at hag'
        simp only [V.agr, V.ok] at hag'
        exact okL_iff.1 hag' x hx
    · exact h.elim
  · rename_i t x lo hi mx
    have h1 : opVC T σ d (.slice t (.tmp x) lo hi mx) (Is v ms) := by
      split at h
      · rename_i h0 _; cases h0
      · exact h
    have h2 := loc_op he ha hm h1
    simp only
    exact h2
  · rename_i bop t x c t'
    have h1 : opVC T σ d (.binOp bop t (.tmp x) (.const c) t') (Is v ms) := by
      split at h
      · rename_i h0 _; cases h0
      · exact h
    have h2 := loc_op he ha hm h1
    simp only
    exact h2
  · rename_i hnc hnc2 hnc3 hnc4
    split
    · exact (hnc _ _ _ rfl).elim
    · exact (hnc2 _ _ _ rfl).elim
    · exact (hnc3 _ _ _ _ _ rfl).elim
    · exact (hnc4 _ _ _ _ _ rfl).elim
    · exact loc_op he ha hm h

theorem mods_oper {hv : List (Nat × List Nat)} {op : Op} (hh : hvy hv d op = false) (h : operVC T P (.drawn hv) σ d op (Is v ms)) : ∀ m ∈ ms, Fr1 σ op m := by
  unfold operVC at h
  split at h
  · rw [forceL_eq] at h
    obtain ⟨v', ms', ⟨rfl, rfl⟩, q2, q3⟩ := light_call (hvy_none hh rfl) h
    exact fun m hm => .inl (q2 m hm)
  · split at h
    · rw [forceL_eq] at h
      obtain ⟨v', ms', ⟨rfl, rfl⟩, q2, q3⟩ := light_call (hvy_none hh rfl) h
      exact fun m hm => .inl (q2 m hm)
    · exact h.elim
  · rename_i t x lo hi mx
    have h1 : opVC T σ d (.slice t (.tmp x) lo hi mx) (Is v ms) := by
      split at h
      · rename_i h0 _; cases h0
      · exact h
    obtain ⟨v', ms', ⟨rfl, rfl⟩, q⟩ := mods_op T σ d _ _ h1
    exact q
  · rename_i bop t x c t'
    have h1 : opVC T σ d (.binOp bop t (.tmp x) (.const c) t') (Is v ms) := by
      split at h
      · rename_i h0 _; cases h0
      · exact h
    obtain ⟨v', ms', ⟨rfl, rfl⟩, q⟩ := mods_op T σ d _ _ h1
    exact q
  · obtain ⟨v', ms', ⟨rfl, rfl⟩, q⟩ := mods_op T σ d _ _ h
    exact q
end
end Go.Ab
