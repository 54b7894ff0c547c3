/-
  The table of types: what the executor knows of a program's types, made out of the program itself.
-/
import Derived.Test.YtbmbfifobonfjaaAbCode
set_option linter.unusedVariables false
set_option linter.unusedSimpArgs false
namespace Go.Ab

def kdOf : Option TypeDesc → Kd
  | some .bool => .bool
  | some (.int k) => .int k
  | some .string => .str
  | some (.slice _) => .slice
  | some (.struct _) => .struct
  | some (.array _ _) => .array
  | _ => .other

def zeroOf (P : Program) (t : TypeId) : Option Value := (P.info? t).bind (·.zero)
def sizeB (P : Program) (t : TypeId) : Nat := ((P.info? t).map (·.size)).getD 0

def aggB : Option TypeDesc → Bool
  | some (.struct _) => true
  | some (.array _ _) => true
  | _ => false

def mkRow (P : Program) (t : TypeId) : Row :=
  { size := sizeB P t
    bytes := ((P.info? t).map (·.bytes)).getD 0
    agg := aggB (P.underlying t)
    kd := kdOf (P.underlying t)
    elem := match P.underlying t with | some (.slice e) => e | some (.array _ e) => e | _ => 0
    alen := match P.underlying t with | some (.array n _) => n | _ => 0
    flds := match P.underlying t with | some (.struct fs) => fs.toList.map (fun f => (f.offset, sizeB P f.type, kdOf (P.underlying f.type), f.type)) | _ => []
    zero := ((zeroOf P t).map (·.cells.toList)).getD []
    eq := !(P.stoodInHeld t) && !(P.eqGuardType P.depth t) && (match P.underlying t with | some (.struct fs) => fs.toList.all (fun f => f.name != "_") | _ => false) }

def isAggV : Value → Bool
  | .agg _ => true
  | _ => false

/-- the row can be leant on -/
def rowB (P : Program) (t : TypeId) : Bool :=
  (P.info? t).isSome && (P.underlying t).isSome && (match zeroOf P t with
    | some z => z.cells.toList.all Value.oneCell' && z.cells.size == sizeB P t && isAggV z == aggB (P.underlying t)
    | none => false) &&
  (match P.underlying t with | some (.struct fs) => fs.toList.all (fun f => (P.info? f.type).isSome) | _ => true)

structure RowOk (P : Program) (t : TypeId) (r : Row) : Prop where
  eqs : r.eq = true → P.stoodInHeld t = false ∧ P.eqGuardType P.depth t = false ∧ ∀ fs, P.underlying t = some (.struct fs) → ∀ f ∈ fs, f.name ≠ "_"
  info : ∃ i, P.info? t = some i ∧ i.size = r.size ∧ i.bytes = r.bytes ∧ ∃ z, i.zero = some z ∧ z.cells.toList = r.zero ∧ (∀ c ∈ r.zero, c.oneCell' = true) ∧ r.zero.length = r.size ∧ (r.agg = true → ∃ cs, z = .agg cs) ∧ (r.agg = false → r.zero = [z])
  und : ∃ d, P.underlying t = some d ∧ r.kd = kdOf (some d) ∧ r.agg = aggB (some d) ∧ (∀ e, d = .slice e → r.elem = e) ∧ (∀ n e, d = .array n e → r.elem = e ∧ r.alen = n) ∧
    (∀ fs, d = .struct fs → r.flds = fs.toList.map (fun f => (f.offset, sizeB P f.type, kdOf (P.underlying f.type), f.type)) ∧ ∀ f ∈ fs, ∃ i, P.info? f.type = some i ∧ i.size = sizeB P f.type)

theorem mkRow_ok {P : Program} {t : TypeId} (h : rowB P t = true) : RowOk P t (mkRow P t) := by
  simp only [rowB, Bool.and_eq_true] at h
  obtain ⟨⟨⟨h1, h2⟩, h3⟩, h4⟩ := h
  obtain ⟨i, hi⟩ := Option.isSome_iff_exists.1 h1
  obtain ⟨d, hd⟩ := Option.isSome_iff_exists.1 h2
  cases hz : zeroOf P t with
  | none => rw [hz] at h3; simp at h3
  | some z =>
    rw [hz] at h3
    simp only [Bool.and_eq_true, List.all_eq_true, beq_iff_eq] at h3
    obtain ⟨⟨z1, z2⟩, z3⟩ := h3
    have hzi : i.zero = some z := by simpa [zeroOf, hi] using hz
    constructor
    · intro he
      simp only [mkRow, Bool.and_eq_true, Bool.not_eq_true'] at he
      refine ⟨he.1.1, he.1.2, fun fs hfs f hf => ?_⟩
      have h3 := he.2
      rw [hfs] at h3
      simp only [List.all_eq_true, bne_iff_ne] at h3
      exact h3 f (by simpa using hf)
    · refine ⟨i, hi, by simp [mkRow, sizeB, hi], by simp [mkRow, hi], z, hzi, by simp [mkRow, hz], ?_, ?_, ?_, ?_⟩
      · simpa [mkRow, hz] using z1
      · simpa [mkRow, hz] using z2
      · intro ha
        simp only [mkRow] at ha
        rw [ha] at z3
        cases z <;> simp [isAggV] at z3
        exact ⟨_, rfl⟩
      · intro ha
        simp only [mkRow] at ha
        rw [ha] at z3
        simp only [mkRow, hz, Option.map_some, Option.getD_some]
        cases z <;> simp_all [isAggV, Value.cells]
    · refine ⟨d, hd, by simp [mkRow, hd], by simp [mkRow, hd], ?_, ?_, ?_⟩
      · rintro e rfl; simp [mkRow, hd]
      · rintro n e rfl; simp [mkRow, hd]
      · rintro fs rfl
        rw [hd] at h4
        simp only [List.all_eq_true] at h4
        refine ⟨by simp [mkRow, hd], fun f hf => ?_⟩
        obtain ⟨fi, hfi⟩ := Option.isSome_iff_exists.1 (h4 f (by simpa using hf))
        exact ⟨fi, hfi, by simp [sizeB, hfi]⟩

def TabOk (T : Tab) (P : Program) : Prop := ∀ t, t < T.n t → RowOk P t (T.row t)

noncomputable def memT (k : Nat) (l : List Nat) : Bool := List.rec (motive := fun _ => Bool) false (fun x _ ih => cond (Nat.beq k x) true ih) l
/-- the table of a program: its types but for some -/
noncomputable def tabOf (P : Program) (n : Nat) (bad : List Nat) : Tab := ⟨fun t => cond (memT t bad) 0 n, mkRow P⟩

theorem nth_eq {α : Type} (l : List α) : ∀ n, nth l n = l[n]? := by
  induction l with
  | nil => intro n; rfl
  | cons x r ih =>
    intro n
    cases n with
    | zero => rfl
    | succ n => exact (ih n).trans (by simp)

theorem tabOf_ok {P : Program} {n : Nat} {bad : List Nat} (h : (List.range n).all (fun t => memT t bad || rowB P t) = true) : TabOk (tabOf P n bad) P := by
  intro t ht
  have ht' : t < cond (memT t bad) 0 n := ht
  cases hb : memT t bad with
  | true => rw [hb] at ht'; exact absurd ht' (Nat.not_lt_zero t)
  | false =>
    rw [hb] at ht'
    have := List.all_eq_true.1 h t (List.mem_range.2 ht')
    rw [hb, Bool.false_or] at this
    exact mkRow_ok this

end Go.Ab
