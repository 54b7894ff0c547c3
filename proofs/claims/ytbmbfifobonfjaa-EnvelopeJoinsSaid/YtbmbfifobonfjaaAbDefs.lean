/-
  The executor over pure values: values, states, and the condition of one operation, a region, a piece of code. All recursion is by the recursors themselves, so that 'conv => whnf' and the kernel take the same steps.
-/
import Derived.WalkKit
import Derived.Deep.Draws
import Derived.Laws.AppendOwn
set_option linter.unusedVariables false
set_option linter.unusedSimpArgs false
namespace Go.Ab

/-- Values as the executor sees them. 'lit': a value of one cell that hangs on no memory; 'sl': a slice whose cells stay as they are; 'cap': such a slice with cap = len; 'own', 'ap': slices that are handed over (at calls alone); 'box i off': the address of a variable of this call; 'arr k g': the slice of this call's own, number k, in its state g; 'fp': the address of cells that stay as they are; 'ae': the address of an element of 'arr k g'. -/
inductive V where
  | bot
  | lit (u : Value)
  | agg (cs : List V)
  | tup (cs : List V)
  | sl (l : List V)
  | cap (l : List V)
  | own (e : TypeId) (l : List V)
  | ap (e : TypeId) (l : List V)
  | box (i off : Nat)
  | arr (k g : Nat)
  | fp (cs : List V)
  | ae (k g sz i off : Nat)

inductive AK where
  | own | ap | frz | dead

structure AE where
  gen : Nat
  kind : AK
  ty : TypeId
  l : List V

structure St where
  env : Nat → V
  bx : Nat → Option (List V)
  ar : Nat → Option AE

inductive Mod where
  | b (i : Nat) (cs : List V)
  | a (k : Nat) (en : AE)

def upd {α : Type} (f : Nat → α) (s : Nat) (x : α) : Nat → α := fun t => cond (Nat.beq t s) x (f t)

inductive Kd where
  | bool | int (k : IntKind) | str | slice | struct | array | other

structure Row where
  size : Nat
  bytes : Nat
  agg : Bool
  kd : Kd
  elem : TypeId
  alen : Nat
  flds : List (Nat × Nat × Kd × TypeId)
  zero : List Value
  eq : Bool

structure Tab where
  n : TypeId → Nat
  row : TypeId → Row

def V.cells : V → List V
  | .agg cs => cs
  | x => [x]


noncomputable def nth {α : Type} (l : List α) : Nat → Option α :=
  List.rec (motive := fun _ => Nat → Option α) (fun _ => none) (fun x _ ih n => cond (Nat.beq n 0) (some x) (ih (Nat.pred n))) l
noncomputable def takeR {α : Type} (l : List α) : Nat → List α :=
  List.rec (motive := fun _ => Nat → List α) (fun _ => []) (fun x _ ih n => cond (Nat.beq n 0) [] (x :: ih (Nat.pred n))) l
noncomputable def dropR {α : Type} (l : List α) : Nat → List α :=
  List.rec (motive := fun _ => Nat → List α) (fun _ => []) (fun x r ih n => cond (Nat.beq n 0) (x :: r) (ih (Nat.pred n))) l
noncomputable def appR {α : Type} (l m : List α) : List α := List.rec (motive := fun _ => List α) m (fun x _ ih => x :: ih) l
noncomputable def lenR {α : Type} (l : List α) : Nat := List.rec (motive := fun _ => Nat) 0 (fun _ _ ih => Nat.succ ih) l
noncomputable def mapR {α β : Type} (f : α → β) (l : List α) : List β := List.rec (motive := fun _ => List β) [] (fun x _ ih => f x :: ih) l
noncomputable def allR {α : Type} (f : α → Bool) (l : List α) : Bool := List.rec (motive := fun _ => Bool) true (fun x _ ih => cond (f x) ih false) l

noncomputable def ofVal : Value → V
  | .agg cs => cond (allR Value.oneCell' cs.toList) (.agg (mapR .lit cs.toList)) .bot
  | .tuple _ => .bot
  | v => .lit v

noncomputable def St.ev (σ : St) : Operand → V
  | .tmp t => σ.env t
  | .const v => ofVal v
  | .global _ => .bot
  | .func _ => .bot

def Mod.app (σ : St) : Mod → St
  | .b i cs => { σ with bx := upd σ.bx i (some cs) }
  | .a k en => { σ with ar := upd σ.ar k (some en) }
def St.apps (σ : St) (ms : List Mod) : St := ms.foldl Mod.app σ
def St.set (σ : St) (d : Nat) (v : V) : St := { σ with env := upd σ.env d v }
def St.put (σ : St) (d : Option Nat) (v : V) (ms : List Mod) : St :=
  match d with
  | some d => (σ.apps ms).set d v
  | none => σ.apps ms

structure arith (k : IntKind) (n : Int) (K : Int → Prop) : Prop where
  out : K (k.wrap n)
structure idx (l : List V) (i : Nat) (K : V → Prop) : Prop where
  out : ∃ x, l[i]? = some x ∧ K x
structure need (p : Prop) (K : Prop) : Prop where
  out : p ∧ K
def branch (b : Bool) (A B : Prop) : Prop := match b with | true => A | false => B
@[irreducible] noncomputable def ltB (a b : Int) : Bool := @decide (a < b) (Classical.propDecidable _)
@[irreducible] noncomputable def leB (a b : Int) : Bool := @decide (a ≤ b) (Classical.propDecidable _)
@[irreducible] noncomputable def eqB (a b : Int) : Bool := @decide (a = b) (Classical.propDecidable _)
@[irreducible] def eqBB (a b : Bool) : Bool := a == b
@[irreducible] def eqS (a b : ByteArray) : Bool := a.toList == b.toList
/-- strings compared as parts of structs -/
@[irreducible] def eqSB (a b : ByteArray) : Bool := a == b
@[irreducible] def ltS (a b : ByteArray) : Bool := Op.bytesLess a.toList b.toList
@[irreducible] def andB (a b : Bool) : Bool := a && b
@[irreducible] noncomputable def maxI (a b : Int) : Int := @ite _ (b > a) (Classical.propDecidable _) b a
@[irreducible] noncomputable def minI (a b : Int) : Int := @ite _ (b < a) (Classical.propDecidable _) b a
@[irreducible] def byteAt (s : ByteArray) (i : Nat) : Int := ((s[i]?).getD 0).toNat

def litInt (k : IntKind) (n : Int) : V := .lit (.int k n)
def B (b : Bool) : V := .lit (.bool b)

/-- strictness: a value is handed on in constructor form -/
def force (v : V) (K : V → Prop) : Prop :=
  match v with
  | .bot => K .bot
  | .lit u => K (.lit u)
  | .agg cs => K (.agg cs)
  | .tup cs => K (.tup cs)
  | .sl l => K (.sl l)
  | .cap l => K (.cap l)
  | .own e l => K (.own e l)
  | .ap e l => K (.ap e l)
  | .box i o => K (.box i o)
  | .arr k g => K (.arr k g)
  | .fp cs => K (.fp cs)
  | .ae k g z i o => K (.ae k g z i o)
noncomputable def forceL (l : List V) : (List V → Prop) → Prop :=
  List.rec (motive := fun _ => (List V → Prop) → Prop) (fun K => K []) (fun x _ ih K => force x fun x' => ih fun r' => K (x' :: r')) l

noncomputable def splice (cs : List V) (off : Nat) (xs : List V) : List V := appR (takeR cs off) (appR xs (dropR cs (off + lenR xs)))

/-- a value of one cell that hangs on no variable or array of this call -/
def V.atom : V → Bool
  | .lit _ => true
  | .sl _ => true
  | .cap _ => true
  | _ => false
/-- a value of one cell -/
def V.one : V → Bool
  | .lit _ => true
  | .sl _ => true
  | .cap _ => true
  | .arr _ _ => true
  | .box _ _ => true
  | .fp _ => true
  | .ae _ _ _ _ _ => true
  | _ => false
def V.isPure : V → Bool
  | .lit _ => true
  | .sl _ => true
  | .cap _ => true
  | .agg cs => cs.all V.atom
  | _ => false

abbrev VK := V → List Mod → Prop

def pickVC (c a b : V) (K : VK) : Prop :=
  match c with
  | .lit (.bool t) => branch t (force a fun v => K v []) (force b fun v => K v [])
  | _ => False

def unVC (u : UnOp) (x : V) (K : VK) : Prop :=
  match u, x with
  | .not, .lit (.bool t) => K (B (!t)) []
  | .neg, .lit (.int k n) => arith k (0 - n) fun m => K (litInt k m) []
  | _, _ => False

noncomputable def intVC (op : BinOp) (k : IntKind) (a b : Int) (K : VK) : Prop :=
  match op with
  | .add => arith k (a + b) fun n => K (litInt k n) []
  | .sub => arith k (a - b) fun n => K (litInt k n) []
  | .mul => arith k (a * b) fun n => K (litInt k n) []
  | .quo => need (b ≠ 0) (arith k (a.tdiv b) fun n => K (litInt k n) [])
  | .rem => need (b ≠ 0) (K (litInt k (a.tmod b)) [])
  | .lss => K (B (ltB a b)) []
  | .gtr => K (B (ltB b a)) []
  | .leq => K (B (leB a b)) []
  | .geq => K (B (leB b a)) []
  | .eql => K (B (eqB a b)) []
  | .neq => K (B (!eqB a b)) []
  | _ => False

noncomputable def strVC (op : BinOp) (a b : ByteArray) (K : VK) : Prop :=
  match op with
  | .add => need (a.size + b.size ≤ 9223372036854775807) (K (.lit (.string (a ++ b))) [])
  | .eql => K (B (eqS a b)) []
  | .neq => K (B (!eqS a b)) []
  | .lss => K (B (ltS a b)) []
  | .gtr => K (B (!(ltS a b || eqS a b))) []
  | .leq => K (B (ltS a b || eqS a b)) []
  | .geq => K (B (!ltS a b)) []
  | _ => False

noncomputable def boolVC (op : BinOp) (kd : Kd) (a b : Bool) (K : VK) : Prop :=
  match op, kd with
  | .eql, .bool => K (B (eqBB a b)) []
  | .neq, .bool => K (B (!eqBB a b)) []
  | _, _ => False

/-- two structs of plain fields: the fields' tests, one behind the other -/
noncomputable def eqFlds (fs : List (Nat × Nat × Kd × TypeId)) : List V → List V → Option Bool :=
  List.rec (motive := fun _ => List V → List V → Option Bool) (fun _ _ => some true)
    (fun f _ ih xs ys => match nth xs f.1, nth ys f.1, f.2.2.1 with
      | some (.lit (.int k a)), some (.lit (.int k' b)), .int _ => cond (decide (k = k')) ((ih xs ys).map (andB (eqB a b))) none
      | some (.lit (.string a)), some (.lit (.string b)), .str => (ih xs ys).map (andB (eqSB a b))
      | some (.lit (.bool a)), some (.lit (.bool b)), .bool => (ih xs ys).map (andB (eqBB a b))
      | _, _, _ => none) fs

noncomputable def aggVC (op : BinOp) (r : Row) (xs ys : List V) (K : VK) : Prop :=
  match op, r.kd with
  | .eql, .struct => need (r.eq = true) (match eqFlds r.flds xs ys with | some b => K (B b) [] | none => False)
  | .neq, .struct => need (r.eq = true) (match eqFlds r.flds xs ys with | some b => K (B (!b)) [] | none => False)
  | _, _ => False

noncomputable def binVC (T : Tab) (op : BinOp) (t : TypeId) (x y : V) (K : VK) : Prop :=
  match x, y with
  | .lit (.int k a), .lit (.int k' b) => cond (decide (k = k')) (intVC op k a b K) False
  | .lit (.string a), .lit (.string b) => strVC op a b K
  | .lit (.bool a), .lit (.bool b) => cond (Nat.blt t (T.n t)) (boolVC op (T.row t).kd a b K) False
  | .agg xs, .agg ys => cond (Nat.blt t (T.n t)) (aggVC op (T.row t) xs ys K) False
  | _, _ => False

noncomputable def newBox (σ : St) (d : Nat) (cs : List V) (K : VK) : Prop :=
  match σ.bx d with
  | none => forceL cs fun cs => cond (allR V.one cs) (K (.box d 0) [.b d cs]) False
  | some _ => False

noncomputable def fieldAddrVC (r : Row) (x : V) (f : Nat) (K : VK) : Prop :=
  match r.kd, nth r.flds f with
  | .struct, some (o, z, _) => cond (Nat.beq z 0) False (match x with
    | .box i off => K (.box i (off + o)) []
    | .fp cs => forceL (dropR cs o) fun cs => K (.fp cs) []
    | .ae k g sz i off => K (.ae k g sz i (off + o)) []
    | _ => False)
  | _, _ => False

/-- what a load of the row's type makes of the cells from its address on -/
noncomputable def pickK (r : Row) (cs : List V) (K : VK) : Prop :=
  match r.agg with
  | true => forceL (takeR cs r.size) fun xs => cond (Nat.beq (lenR xs) r.size) (K (.agg xs) []) False
  | false => match cs with
    | x :: _ => force x fun v => K v []
    | [] => False

noncomputable def fieldVC (T : Tab) (r : Row) (x : V) (f : Nat) (K : VK) : Prop :=
  match r.kd, nth r.flds f, x with
  | .struct, some (o, _, _, ty), .agg cs => cond (Nat.blt ty (T.n ty)) (pickK (T.row ty) (dropR cs o) K) False
  | _, _, _ => False

noncomputable def loadVC (r : Row) (σ : St) (x : V) (K : VK) : Prop :=
  match x with
  | .box i off => match σ.bx i with
    | some cs => pickK r (dropR cs off) K
    | none => False
  | .fp cs => pickK r cs K
  | .ae k g sz i off => match σ.ar k with
    | some en => need (en.gen = g ∧ en.kind ≠ .dead) (idx en.l i fun x => cond (Nat.beq (lenR x.cells) sz) (pickK r (dropR x.cells off) K) False)
    | none => False
  | _ => False

noncomputable def reCell (x : V) (cs : List V) : V :=
  match x with
  | .agg _ => .agg cs
  | _ => match cs with
    | y :: _ => y
    | [] => .bot

noncomputable def storeVC (r : Row) (σ : St) (x y : V) (K : VK) : Prop :=
  match x with
  | .box i off => match σ.bx i with
    | some cs => cond (Nat.beq (lenR y.cells) r.size && Nat.ble (off + r.size) (lenR cs) && allR V.one y.cells) (forceL (splice cs off y.cells) fun cs => K .bot [.b i cs]) False
    | none => False
  | .ae k g sz i off => match σ.ar k with
    | some en => need (en.gen = g ∧ en.kind = .own) (idx en.l i fun x =>
        cond (Nat.beq (lenR y.cells) r.size && Nat.ble (off + r.size) (lenR x.cells) && Nat.beq (lenR x.cells) sz && allR V.atom y.cells)
          (forceL (splice x.cells off y.cells) fun cs => K .bot [.a k { en with l := en.l.set i (reCell x cs) }]) False)
    | none => False
  | _ => False

noncomputable def indexAddrVC (T : Tab) (r : Row) (σ : St) (x i : V) (K : VK) : Prop :=
  match r.kd, i with
  | .slice, .lit (.int _ n) => match x with
    | .sl l => need (0 ≤ n ∧ n < l.length) (idx l n.toNat fun x => forceL x.cells fun cs => cond (Nat.beq (lenR cs) (T.row r.elem).size && Nat.blt r.elem (T.n r.elem)) (K (.fp cs) []) False)
    | .cap l => need (0 ≤ n ∧ n < l.length) (idx l n.toNat fun x => forceL x.cells fun cs => cond (Nat.beq (lenR cs) (T.row r.elem).size && Nat.blt r.elem (T.n r.elem)) (K (.fp cs) []) False)
    | .arr k g => match σ.ar k with
      | some en => need (en.gen = g ∧ en.kind ≠ .dead ∧ 0 ≤ n ∧ n < en.l.length) (cond (Nat.beq en.ty r.elem && Nat.blt r.elem (T.n r.elem)) (K (.ae k g (T.row r.elem).size n.toNat 0) []) False)
      | none => False
    | _ => False
  | .array, .lit (.int _ (.ofNat n)) => match x with
    | .box i off => cond (Nat.blt n r.alen && Nat.blt r.elem (T.n r.elem)) (K (.box i (off + n * (T.row r.elem).size)) []) False
    | .fp cs => cond (Nat.blt n r.alen && Nat.blt r.elem (T.n r.elem)) (forceL (dropR cs (n * (T.row r.elem).size)) fun cs => K (.fp cs) []) False
    | _ => False
  | _, _ => False

noncomputable def indexVC (T : Tab) (r : Row) (x i : V) (K : VK) : Prop :=
  match r.kd, x, i with
  | .str, .lit (.string s), .lit (.int _ n) => need (0 ≤ n ∧ n < s.size) (K (litInt .u8 (byteAt s n.toNat)) [])
  | .array, .agg cs, .lit (.int _ (.ofNat n)) => cond (Nat.blt n r.alen && Nat.blt r.elem (T.n r.elem)) (pickK (T.row r.elem) (dropR cs (n * (T.row r.elem).size)) K) False
  | _, _, _ => False

/-- the elements of a slice value -/
def conts (σ : St) (x : V) (K : List V → Prop) : Prop :=
  match x with
  | .sl l => K l
  | .cap l => K l
  | .lit (.slice none 0 0) => K []
  | .arr k g => match σ.ar k with
    | some en => need (en.gen = g ∧ en.kind ≠ .dead) (K en.l)
    | none => False
  | _ => False

def lenVC (σ : St) (x : V) (K : VK) : Prop :=
  match x with
  | .lit (.slice none 0 0) => K (litInt .i64 0) []
  | .sl l => K (litInt .i64 l.length) []
  | .cap l => K (litInt .i64 l.length) []
  | .arr k g => match σ.ar k with
    | some en => need (en.gen = g ∧ en.kind ≠ .dead) (K (litInt .i64 en.l.length) [])
    | none => False
  | _ => False

def slenVC (x : V) (K : VK) : Prop :=
  match x with
  | .lit (.string s) => K (litInt .i64 s.size) []
  | _ => False

def extractVC (x : V) (i : Nat) (K : VK) : Prop :=
  match x with
  | .tup cs => match cs[i]? with
    | some v => force v fun v => K v []
    | none => False
  | _ => False

/-- the fields of a composite value, laid over its zero -/
noncomputable def fillK (place : Nat → Option (Nat × Nat)) (σ : St) (ps : List (Nat × Operand)) : List V → (List V → Prop) → Prop :=
  List.rec (motive := fun _ => List V → (List V → Prop) → Prop) (fun cs K => forceL cs K)
    (fun p _ ih cs K => match place p.1 with
      | some (o, z) => cond (Nat.beq (lenR (σ.ev p.2).cells) z && Nat.ble (o + z) (lenR cs) && allR V.one (σ.ev p.2).cells) (ih (splice cs o (σ.ev p.2).cells) K) False
      | none => False) ps

noncomputable def buildVC (T : Tab) (r : Row) (σ : St) (ps : List (Nat × Operand)) (K : VK) : Prop :=
  match r.kd with
  | .struct => fillK (fun i => (nth r.flds i).map fun f => (f.1, f.2.1)) σ ps (mapR .lit r.zero) fun cs => K (.agg cs) []
  | .array => cond (Nat.blt r.elem (T.n r.elem)) (fillK (fun i => some (i * (T.row r.elem).size, (T.row r.elem).size)) σ ps (mapR .lit r.zero) fun cs => K (.agg cs) []) False
  | _ => False

/-- a list of cells as elements of a type -/
noncomputable def chunk1 (agg : Bool) (z : Nat) (cs : List V) : V := match agg with | true => V.agg (takeR cs z) | false => (match cs with | x :: _ => x | [] => .bot)
noncomputable def chunk (agg : Bool) (z : Nat) (n : Nat) : List V → List V :=
  Nat.rec (motive := fun _ => List V → List V) (fun _ => []) (fun _ ih cs => chunk1 agg z cs :: ih (dropR cs z)) n

noncomputable def repR {α : Type} (n : Nat) (l : List α) : List α := Nat.rec (motive := fun _ => List α) [] (fun _ ih => appR l ih) n

noncomputable def buildSliceVC (T : Tab) (r : Row) (σ : St) (d : Nat) (n : Nat) (ps : List (Nat × Operand)) (K : VK) : Prop :=
  match r.kd, σ.ar d with
  | .slice, none => cond (Nat.blt r.elem (T.n r.elem) && Nat.ble (n * (T.row r.elem).size) 1000 && Nat.blt 0 (T.row r.elem).size)
      (fillK (fun i => some (i * (T.row r.elem).size, (T.row r.elem).size)) σ ps (repR n (mapR .lit (T.row r.elem).zero)) fun cs =>
        cond (allR V.atom cs) (K (.arr d 0) [.a d ⟨0, .own, r.elem, chunk (T.row r.elem).agg (T.row r.elem).size n cs⟩]) False) False
  | _, _ => False

noncomputable def elemOfCells (r : Row) (cs : List V) : V := match r.agg with | true => .agg cs | false => (match cs with | x :: _ => x | [] => .bot)

noncomputable def makeSliceVC (T : Tab) (r : Row) (σ : St) (d : Nat) (n c : V) (K : VK) : Prop :=
  match r.kd, σ.ar d, n, c with
  | .slice, none, .lit (.int .i64 n), .lit (.int .i64 c) =>
    need (0 ≤ n ∧ n = c ∧ c * (T.row r.elem).bytes ≤ 140737488355328 ∧ c ≤ 140737488355328) (cond (Nat.blt r.elem (T.n r.elem) && Nat.blt 0 (T.row r.elem).size) (K (.arr d 0) [.a d ⟨0, .own, r.elem, List.replicate n.toNat (elemOfCells (T.row r.elem) (mapR .lit (T.row r.elem).zero))⟩]) False)
  | _, _, _, _ => False

noncomputable def appendVC (T : Tab) (r : Row) (σ : St) (d : Nat) (s x : V) (K : VK) : Prop :=
  match r.kd with
  | .slice => cond (Nat.blt r.elem (T.n r.elem) && Nat.blt 0 (T.row r.elem).size) (conts σ x fun xs => match s with
    | .lit (.slice none 0 0) => match σ.ar d with
      | none => need (xs.length * (T.row r.elem).bytes ≤ 140737488355328 ∧ xs.length ≤ 140737488355328 ∧ ∀ x ∈ xs, x.cells.length = (T.row r.elem).size) (K (.arr d 0) [.a d ⟨0, .own, r.elem, xs⟩])
      | some _ => False
    | .cap l => match σ.ar d with
      | none => need ((l.length + xs.length) * (T.row r.elem).bytes ≤ 140737488355328 ∧ l.length + xs.length ≤ 140737488355328 ∧ ∀ x ∈ l ++ xs, x.cells.length = (T.row r.elem).size) (K (.arr d 0) [.a d ⟨0, .ap, r.elem, l ++ xs⟩])
      | some _ => False
    | .arr k g => match σ.ar k with
      | some en => need (en.gen = g ∧ (en.kind = .own ∨ en.kind = .ap) ∧ en.ty = r.elem ∧ (en.l.length + xs.length) * (T.row r.elem).bytes ≤ 140737488355328 ∧ en.l.length + xs.length ≤ 140737488355328 ∧ ∀ x ∈ xs, x.cells.length = (T.row r.elem).size)
          (K (.arr k (g + 1)) [.a k ⟨g + 1, en.kind, r.elem, en.l ++ xs⟩])
      | none => False
    | _ => False) False
  | _ => False

/-- a bound of a slice expression -/
def bound (o : Option V) (dflt : Int) (K : Int → Prop) : Prop :=
  match o with
  | none => K dflt
  | some (.lit (.int _ n)) => K n
  | _ => False

noncomputable def sliceVC (T : Tab) (r : Row) (σ : St) (x : V) (lo hi mx : Option V) (K : VK) : Prop :=
  match r.kd, x with
  | .str, .lit (.string s) => match mx with
    | none => bound lo 0 fun l => bound hi s.size fun h => need (0 ≤ l ∧ l ≤ h ∧ h ≤ s.size) (K (.lit (.string (s.extract l.toNat h.toNat))) [])
    | some _ => False
  | .slice, .arr _ _ => False
  | .slice, x => cond (Nat.blt r.elem (T.n r.elem)) (conts σ x fun xs => bound lo 0 fun l => bound hi xs.length fun h => match mx with
    | none => need (0 ≤ l ∧ l ≤ h ∧ h ≤ xs.length ∧ (l = 0 ∨ ∀ x ∈ xs, x.cells.length = (T.row r.elem).size)) (K (.sl ((xs.take h.toNat).drop l.toNat)) [])
    | some m => match hi with
      | none => False
      | some _ => bound (some m) 0 fun m => need (0 ≤ l ∧ l ≤ h ∧ h ≤ xs.length ∧ m = h ∧ (l = 0 ∨ ∀ x ∈ xs, x.cells.length = (T.row r.elem).size)) (K (.cap ((xs.take h.toNat).drop l.toNat)) [])) False
  | _, _ => False

noncomputable def maxminVC (f : Int → Int → Int) (xs : List V) (K : VK) : Prop :=
  match xs with
  | [.lit (.int k a), .lit (.int _ b)] => K (litInt k (f a b)) []
  | [.lit (.int k a), .lit (.int _ b), .lit (.int _ c)] => K (litInt k (f (f a b) c)) []
  | _ => False

noncomputable def convVC (T : Tab) (s t : TypeId) (x : V) (K : VK) : Prop :=
  match Nat.blt s (T.n s) && Nat.blt t (T.n t), (T.row s).kd, (T.row t).kd, x with
  | true, .int _, .int k, .lit (.int _ n) => arith k n fun m => K (litInt k m) []
  | true, .str, .str, .lit (.string b) => K (.lit (.string b)) []
  | _, _, _, _ => False

/-- one operation, calls of Go functions apart -/
noncomputable def opVC (T : Tab) (σ : St) (d : Nat) (o : Op) (K : VK) : Prop :=
  match o with
  | .move x => force (σ.ev x) fun v => K v []
  | .assign x => force (σ.ev x) fun v => K v []
  | .pick c a b => pickVC (σ.ev c) (σ.ev a) (σ.ev b) K
  | .unOp u _ x => unVC u (σ.ev x) K
  | .binOp op t x y _ => binVC T op t (σ.ev x) (σ.ev y) K
  | .box _ x => newBox σ d (σ.ev x).cells K
  | .alloc t => cond (Nat.blt t (T.n t)) (newBox σ d (mapR .lit (T.row t).zero) K) False
  | .fieldAddr s x f => cond (Nat.blt s (T.n s)) (fieldAddrVC (T.row s) (σ.ev x) f K) False
  | .field s x f => cond (Nat.blt s (T.n s)) (fieldVC T (T.row s) (σ.ev x) f K) False
  | .load t x => cond (Nat.blt t (T.n t)) (loadVC (T.row t) σ (σ.ev x) K) False
  | .store t x y => cond (Nat.blt t (T.n t)) (storeVC (T.row t) σ (σ.ev x) (σ.ev y) K) False
  | .indexAddr t x i => cond (Nat.blt t (T.n t)) (indexAddrVC T (T.row t) σ (σ.ev x) (σ.ev i) K) False
  | .index t x i => cond (Nat.blt t (T.n t)) (indexVC T (T.row t) (σ.ev x) (σ.ev i) K) False
  | .extract x i => extractVC (σ.ev x) i K
  | .build t ps => cond (Nat.blt t (T.n t)) (buildVC T (T.row t) σ ps.toList K) False
  | .buildSlice t n ps => cond (Nat.blt t (T.n t)) (buildSliceVC T (T.row t) σ d n ps.toList K) False
  | .makeSlice t n c => cond (Nat.blt t (T.n t)) (makeSliceVC T (T.row t) σ d (σ.ev n) (σ.ev c) K) False
  | .slice t x lo hi mx => cond (Nat.blt t (T.n t)) (sliceVC T (T.row t) σ (σ.ev x) (lo.map σ.ev) (hi.map σ.ev) (mx.map σ.ev) K) False
  | .convert s t x => convVC T s t (σ.ev x) K
  | .call ⟨.builtin .len, ⟨[x]⟩, ⟨[t]⟩⟩ => cond (Nat.blt t (T.n t)) (match (T.row t).kd with | .slice => lenVC σ (σ.ev x) K | .str => slenVC (σ.ev x) K | _ => False) False
  | .call ⟨.builtin .append, ⟨[s, x]⟩, ⟨[t, t']⟩⟩ => cond (Nat.blt t (T.n t) && Nat.beq t t') (appendVC T (T.row t) σ d (σ.ev s) (σ.ev x) K) False
  | .call ⟨.builtin .max, ⟨as⟩, _⟩ => maxminVC maxI (mapR σ.ev as) K
  | .call ⟨.builtin .min, ⟨as⟩, _⟩ => maxminVC minI (mapR σ.ev as) K
  | _ => False

end Go.Ab
