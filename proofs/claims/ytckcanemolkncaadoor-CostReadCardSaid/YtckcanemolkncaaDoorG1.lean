/-
  The executor over pure values: values, states, and the condition of one operation, a region, a piece of code. All recursion is by the recursors themselves, so that 'conv => whnf' and the kernel take the same steps.
  What the executor's values and states say of the model's values and worlds.
  The executor over calls, regions and code.
  The table of types: what the executor knows of a program's types, made out of the program itself.
  Small laws: the recursors' functions are the usual ones; what the values' relation gives.
  The operations that look at no memory.
  How the relation goes on when the world changes.
-/
import Derived.WalkKit
import Derived.Deep.Draws
import Derived.Laws.AppendOwn
set_option linter.unusedVariables false
set_option linter.unusedSimpArgs false
namespace Go.Ab

/-- Values as the executor sees them. 'lit': a value of one cell that hangs on no memory; 'sl': a slice whose cells stay as they are; 'cap': such a slice with cap = len; 'own', 'ap': slices that are handed over (at calls alone); 'box i off': the address of a variable of this call; 'arr k g': the slice of this call's own, number k, in its state g; 'fp': the address of cells that stay as they are; 'ae': the address of an element of 'arr k g'. -/
inductive V where
  | bot
  | lit (u : Value)
  | agg (cs : List V)
  | tup (cs : List V)
  | sl (l : List V)
  | cap (l : List V)
  | own (e : TypeId) (l : List V)
  | ap (e : TypeId) (l : List V)
  | box (i off : Nat)
  | arr (k g : Nat)
  | fp (cs : List V)
  | ae (k g sz i off : Nat)
  | fn (g : FuncId) (caps : List V)

inductive AK where
  | own | ap | frz | dead

structure AE where
  gen : Nat
  kind : AK
  ty : TypeId
  l : List V

structure St where
  env : Nat → V
  bx : Nat → Option (List V)
  ar : Nat → Option AE

inductive Mod where
  | b (i : Nat) (cs : List V)
  | a (k : Nat) (en : AE)

def upd {α : Type} (f : Nat → α) (s : Nat) (x : α) : Nat → α := fun t => cond (Nat.beq t s) x (f t)

inductive Kd where
  | bool | int (k : IntKind) | str | slice | struct | array | other

structure Row where
  size : Nat
  bytes : Nat
  agg : Bool
  kd : Kd
  elem : TypeId
  alen : Nat
  flds : List (Nat × Nat × Kd × TypeId)
  zero : List Value
  eq : Bool

/-- the types' rows; and what is known of package-level variables, which lie in blocks that stay as they are -/
structure Tab where
  n : TypeId → Nat
  row : TypeId → Row
  lay : World → (Nat → Prop) → Prop
  lay_mono : ∀ {w w' : World} {F F' : Nat → Prop}, (∀ b, F b → F' b ∧ w'.heap[b]? = w.heap[b]?) → lay w F → lay w' F'
  /-- function values of this function keep the addresses of the variables that they capture -/
  ref : FuncId → Bool

def V.cells : V → List V
  | .agg cs => cs
  | x => [x]


noncomputable def nth {α : Type} (l : List α) : Nat → Option α :=
  List.rec (motive := fun _ => Nat → Option α) (fun _ => none) (fun x _ ih n => cond (Nat.beq n 0) (some x) (ih (Nat.pred n))) l
noncomputable def takeR {α : Type} (l : List α) : Nat → List α :=
  List.rec (motive := fun _ => Nat → List α) (fun _ => []) (fun x _ ih n => cond (Nat.beq n 0) [] (x :: ih (Nat.pred n))) l
noncomputable def dropR {α : Type} (l : List α) : Nat → List α :=
  List.rec (motive := fun _ => Nat → List α) (fun _ => []) (fun x r ih n => cond (Nat.beq n 0) (x :: r) (ih (Nat.pred n))) l
noncomputable def appR {α : Type} (l m : List α) : List α := List.rec (motive := fun _ => List α) m (fun x _ ih => x :: ih) l
noncomputable def lenR {α : Type} (l : List α) : Nat := List.rec (motive := fun _ => Nat) 0 (fun _ _ ih => Nat.succ ih) l
noncomputable def mapR {α β : Type} (f : α → β) (l : List α) : List β := List.rec (motive := fun _ => List β) [] (fun x _ ih => f x :: ih) l
noncomputable def allR {α : Type} (f : α → Bool) (l : List α) : Bool := List.rec (motive := fun _ => Bool) true (fun x _ ih => cond (f x) ih false) l

/-- the variable i of the call has become cells that stay as they are -/
noncomputable def V.frz (i : Nat) (cs : List V) (x : V) : V :=
  V.rec (motive_1 := fun _ => V) (motive_2 := fun _ => List V)
    .bot (fun u => .lit u) (fun _ ih => .agg ih) (fun _ ih => .tup ih) (fun l _ => .sl l) (fun l _ => .cap l) (fun e l _ => .own e l) (fun e l _ => .ap e l)
    (fun j off => cond (Nat.beq j i) (.fp (dropR cs off)) (.box j off)) (fun k g => .arr k g) (fun l _ => .fp l) (fun k g z i o => .ae k g z i o) (fun g _ ih => .fn g ih)
    [] (fun _ _ ih1 ih2 => ih1 :: ih2) x

noncomputable def frzB (i : Nat) (cs : List V) (bx : Nat → Option (List V)) : Nat → Option (List V) := fun j => cond (Nat.beq j i) none (match bx j with | none => none | some l => some (mapR (V.frz i cs) l))

noncomputable def ofVal : Value → V
  | .agg cs => cond (allR Value.oneCell' cs.toList) (.agg (mapR .lit cs.toList)) .bot
  | .tuple _ => .bot
  | v => .lit v

noncomputable def St.ev (σ : St) : Operand → V
  | .tmp t => σ.env t
  | .const v => ofVal v
  | .global _ => .bot
  | .func f => .fn f []

def Mod.app (σ : St) : Mod → St
  | .b i cs => { σ with bx := upd σ.bx i (some cs) }
  | .a k en => { σ with ar := upd σ.ar k (some en) }
def St.apps (σ : St) (ms : List Mod) : St := ms.foldl Mod.app σ
def St.set (σ : St) (d : Nat) (v : V) : St := { σ with env := upd σ.env d v }
def St.put (σ : St) (d : Option Nat) (v : V) (ms : List Mod) : St :=
  match d with
  | some d => (σ.apps ms).set d v
  | none => σ.apps ms

structure arith (k : IntKind) (n : Int) (K : Int → Prop) : Prop where
  out : K (k.wrap n)
structure idx (l : List V) (i : Nat) (K : V → Prop) : Prop where
  out : ∃ x, l[i]? = some x ∧ K x
structure need (p : Prop) (K : Prop) : Prop where
  out : p ∧ K
def branch (b : Bool) (A B : Prop) : Prop := match b with | true => A | false => B
@[irreducible] noncomputable def ltB (a b : Int) : Bool := @decide (a < b) (Classical.propDecidable _)
@[irreducible] noncomputable def leB (a b : Int) : Bool := @decide (a ≤ b) (Classical.propDecidable _)
@[irreducible] noncomputable def eqB (a b : Int) : Bool := @decide (a = b) (Classical.propDecidable _)
@[irreducible] def eqBB (a b : Bool) : Bool := a == b
@[irreducible] def eqS (a b : ByteArray) : Bool := a.toList == b.toList
/-- strings compared as parts of structs -/
@[irreducible] def eqSB (a b : ByteArray) : Bool := a == b
@[irreducible] def ltS (a b : ByteArray) : Bool := Op.bytesLess a.toList b.toList
@[irreducible] def andB (a b : Bool) : Bool := a && b
@[irreducible] noncomputable def maxI (a b : Int) : Int := @ite _ (b > a) (Classical.propDecidable _) b a
@[irreducible] noncomputable def minI (a b : Int) : Int := @ite _ (b < a) (Classical.propDecidable _) b a
@[irreducible] noncomputable def shrI (k : IntKind) (a b : Int) : Int := a.fdiv (2 ^ (min b.toNat k.bits))
@[irreducible] def byteAt (s : ByteArray) (i : Nat) : Int := ((s[i]?).getD 0).toNat

def litInt (k : IntKind) (n : Int) : V := .lit (.int k n)
def B (b : Bool) : V := .lit (.bool b)

/-- strictness: a value is handed on in constructor form -/
def force (v : V) (K : V → Prop) : Prop :=
  match v with
  | .bot => K .bot
  | .lit u => K (.lit u)
  | .agg cs => K (.agg cs)
  | .tup cs => K (.tup cs)
  | .sl l => K (.sl l)
  | .cap l => K (.cap l)
  | .own e l => K (.own e l)
  | .ap e l => K (.ap e l)
  | .box i o => K (.box i o)
  | .arr k g => K (.arr k g)
  | .fp cs => K (.fp cs)
  | .ae k g z i o => K (.ae k g z i o)
  | .fn g cs => K (.fn g cs)
noncomputable def forceL (l : List V) : (List V → Prop) → Prop :=
  List.rec (motive := fun _ => (List V → Prop) → Prop) (fun K => K []) (fun x _ ih K => force x fun x' => ih fun r' => K (x' :: r')) l

noncomputable def splice (cs : List V) (off : Nat) (xs : List V) : List V := appR (takeR cs off) (appR xs (dropR cs (off + lenR xs)))

/-- what a function value has captured hangs on no variable of this call -/
def V.still : V → Bool
  | .lit _ => true
  | .fp _ => true
  | _ => false
/-- a value of one cell that hangs on no variable or array of this call -/
noncomputable def V.atom : V → Bool
  | .lit _ => true
  | .sl _ => true
  | .cap _ => true
  | .fn _ cs => allR V.still cs
  | _ => false
/-- a value of one cell -/
def V.one : V → Bool
  | .lit _ => true
  | .sl _ => true
  | .cap _ => true
  | .arr _ _ => true
  | .box _ _ => true
  | .fp _ => true
  | .ae _ _ _ _ _ => true
  | .fn _ _ => true
  | _ => false
noncomputable def V.isPure : V → Bool
  | .lit _ => true
  | .sl _ => true
  | .cap _ => true
  | .agg cs => cs.all V.atom
  | _ => false

abbrev VK := V → List Mod → Prop

def pickVC (c a b : V) (K : VK) : Prop :=
  match c with
  | .lit (.bool t) => branch t (force a fun v => K v []) (force b fun v => K v [])
  | _ => False

def unVC (u : UnOp) (x : V) (K : VK) : Prop :=
  match u, x with
  | .not, .lit (.bool t) => K (B (!t)) []
  | .neg, .lit (.int k n) => arith k (0 - n) fun m => K (litInt k m) []
  | _, _ => False

noncomputable def intVC (op : BinOp) (k : IntKind) (a b : Int) (K : VK) : Prop :=
  match op with
  | .add => arith k (a + b) fun n => K (litInt k n) []
  | .sub => arith k (a - b) fun n => K (litInt k n) []
  | .mul => arith k (a * b) fun n => K (litInt k n) []
  | .quo => need (b ≠ 0) (arith k (a.tdiv b) fun n => K (litInt k n) [])
  | .rem => need (b ≠ 0) (K (litInt k (a.tmod b)) [])
  | .shr => need (0 ≤ b) (K (litInt k (shrI k a b)) [])
  | .lss => K (B (ltB a b)) []
  | .gtr => K (B (ltB b a)) []
  | .leq => K (B (leB a b)) []
  | .geq => K (B (leB b a)) []
  | .eql => K (B (eqB a b)) []
  | .neq => K (B (!eqB a b)) []
  | _ => False

noncomputable def strVC (op : BinOp) (a b : ByteArray) (K : VK) : Prop :=
  match op with
  | .add => need (a.size + b.size ≤ 9223372036854775807) (K (.lit (.string (a ++ b))) [])
  | .eql => K (B (eqS a b)) []
  | .neq => K (B (!eqS a b)) []
  | .lss => K (B (ltS a b)) []
  | .gtr => K (B (!(ltS a b || eqS a b))) []
  | .leq => K (B (ltS a b || eqS a b)) []
  | .geq => K (B (!ltS a b)) []
  | _ => False

noncomputable def boolVC (op : BinOp) (kd : Kd) (a b : Bool) (K : VK) : Prop :=
  match op, kd with
  | .eql, .bool => K (B (eqBB a b)) []
  | .neq, .bool => K (B (!eqBB a b)) []
  | _, _ => False

/-- two structs of plain fields: the fields' tests, one behind the other -/
noncomputable def eqFlds (fs : List (Nat × Nat × Kd × TypeId)) : List V → List V → Option Bool :=
  List.rec (motive := fun _ => List V → List V → Option Bool) (fun _ _ => some true)
    (fun f _ ih xs ys => match nth xs f.1, nth ys f.1, f.2.2.1 with
      | some (.lit (.int k a)), some (.lit (.int k' b)), .int _ => cond (decide (k = k')) ((ih xs ys).map (andB (eqB a b))) none
      | some (.lit (.string a)), some (.lit (.string b)), .str => (ih xs ys).map (andB (eqSB a b))
      | some (.lit (.bool a)), some (.lit (.bool b)), .bool => (ih xs ys).map (andB (eqBB a b))
      | _, _, _ => none) fs

noncomputable def aggVC (op : BinOp) (r : Row) (xs ys : List V) (K : VK) : Prop :=
  match op, r.kd with
  | .eql, .struct => need (r.eq = true) (match eqFlds r.flds xs ys with | some b => K (B b) [] | none => False)
  | .neq, .struct => need (r.eq = true) (match eqFlds r.flds xs ys with | some b => K (B (!b)) [] | none => False)
  | _, _ => False

noncomputable def binVC (T : Tab) (op : BinOp) (t : TypeId) (x y : V) (K : VK) : Prop :=
  match x, y with
  | .lit (.int k a), .lit (.int k' b) => cond (decide (k = k')) (intVC op k a b K) False
  | .lit (.string a), .lit (.string b) => strVC op a b K
  | .lit (.bool a), .lit (.bool b) => cond (Nat.blt t (T.n t)) (boolVC op (T.row t).kd a b K) False
  | .agg xs, .agg ys => cond (Nat.blt t (T.n t)) (aggVC op (T.row t) xs ys K) False
  | _, _ => False

noncomputable def newBox (σ : St) (d : Nat) (cs : List V) (K : VK) : Prop :=
  match σ.bx d with
  | none => forceL cs fun cs => cond (allR V.one cs) (K (.box d 0) [.b d cs]) False
  | some _ => False

noncomputable def fieldAddrVC (r : Row) (x : V) (f : Nat) (K : VK) : Prop :=
  match r.kd, nth r.flds f with
  | .struct, some (o, z, _) => cond (Nat.beq z 0) False (match x with
    | .box i off => K (.box i (off + o)) []
    | .fp cs => forceL (dropR cs o) fun cs => K (.fp cs) []
    | .ae k g sz i off => K (.ae k g sz i (off + o)) []
    | _ => False)
  | _, _ => False

/-- what a load of the row's type makes of the cells from its address on -/
noncomputable def pickK (r : Row) (cs : List V) (K : VK) : Prop :=
  match r.agg with
  | true => forceL (takeR cs r.size) fun xs => cond (Nat.beq (lenR xs) r.size) (K (.agg xs) []) False
  | false => match cs with
    | x :: _ => force x fun v => K v []
    | [] => False

noncomputable def fieldVC (T : Tab) (r : Row) (x : V) (f : Nat) (K : VK) : Prop :=
  match r.kd, nth r.flds f, x with
  | .struct, some (o, _, _, ty), .agg cs => cond (Nat.blt ty (T.n ty)) (pickK (T.row ty) (dropR cs o) K) False
  | _, _, _ => False

noncomputable def loadVC (r : Row) (σ : St) (x : V) (K : VK) : Prop :=
  match x with
  | .box i off => match σ.bx i with
    | some cs => pickK r (dropR cs off) K
    | none => False
  | .fp cs => pickK r cs K
  | .ae k g sz i off => match σ.ar k with
    | some en => need (en.gen = g ∧ en.kind ≠ .dead) (idx en.l i fun x => cond (Nat.beq (lenR x.cells) sz) (pickK r (dropR x.cells off) K) False)
    | none => False
  | _ => False

noncomputable def reCell (x : V) (cs : List V) : V :=
  match x with
  | .agg _ => .agg cs
  | _ => match cs with
    | y :: _ => y
    | [] => .bot

noncomputable def storeVC (r : Row) (σ : St) (x y : V) (K : VK) : Prop :=
  match x with
  | .box i off => match σ.bx i with
    | some cs => cond (Nat.beq (lenR y.cells) r.size && Nat.ble (off + r.size) (lenR cs) && allR V.one y.cells) (forceL (splice cs off y.cells) fun cs => K .bot [.b i cs]) False
    | none => False
  | .ae k g sz i off => match σ.ar k with
    | some en => need (en.gen = g ∧ en.kind = .own) (idx en.l i fun x =>
        cond (Nat.beq (lenR y.cells) r.size && Nat.ble (off + r.size) (lenR x.cells) && Nat.beq (lenR x.cells) sz && allR V.atom y.cells)
          (forceL (splice x.cells off y.cells) fun cs => K .bot [.a k { en with l := en.l.set i (reCell x cs) }]) False)
    | none => False
  | _ => False

noncomputable def indexAddrVC (T : Tab) (r : Row) (σ : St) (x i : V) (K : VK) : Prop :=
  match r.kd, i with
  | .slice, .lit (.int _ n) => match x with
    | .sl l => need (0 ≤ n ∧ n < l.length) (idx l n.toNat fun x => forceL x.cells fun cs => cond (Nat.beq (lenR cs) (T.row r.elem).size && Nat.blt r.elem (T.n r.elem)) (K (.fp cs) []) False)
    | .cap l => need (0 ≤ n ∧ n < l.length) (idx l n.toNat fun x => forceL x.cells fun cs => cond (Nat.beq (lenR cs) (T.row r.elem).size && Nat.blt r.elem (T.n r.elem)) (K (.fp cs) []) False)
    | .arr k g => match σ.ar k with
      | some en => need (en.gen = g ∧ en.kind ≠ .dead ∧ 0 ≤ n ∧ n < en.l.length) (cond (Nat.beq en.ty r.elem && Nat.blt r.elem (T.n r.elem)) (K (.ae k g (T.row r.elem).size n.toNat 0) []) False)
      | none => False
    | _ => False
  | .array, .lit (.int _ (.ofNat n)) => match x with
    | .box i off => cond (Nat.blt n r.alen && Nat.blt r.elem (T.n r.elem)) (K (.box i (off + n * (T.row r.elem).size)) []) False
    | .fp cs => cond (Nat.blt n r.alen && Nat.blt r.elem (T.n r.elem)) (forceL (dropR cs (n * (T.row r.elem).size)) fun cs => K (.fp cs) []) False
    | _ => False
  | _, _ => False

noncomputable def indexVC (T : Tab) (r : Row) (x i : V) (K : VK) : Prop :=
  match r.kd, x, i with
  | .str, .lit (.string s), .lit (.int _ n) => need (0 ≤ n ∧ n < s.size) (K (litInt .u8 (byteAt s n.toNat)) [])
  | .array, .agg cs, .lit (.int _ (.ofNat n)) => cond (Nat.blt n r.alen && Nat.blt r.elem (T.n r.elem)) (pickK (T.row r.elem) (dropR cs (n * (T.row r.elem).size)) K) False
  | _, _, _ => False

/-- the elements of a slice value -/
def conts (σ : St) (x : V) (K : List V → Prop) : Prop :=
  match x with
  | .sl l => K l
  | .cap l => K l
  | .lit (.slice none 0 0) => K []
  | .arr k g => match σ.ar k with
    | some en => need (en.gen = g ∧ en.kind ≠ .dead) (K en.l)
    | none => False
  | _ => False

/-- the elements of a slice whose cells stay as they are -/
def contsF (σ : St) (x : V) (K : List V → Prop) : Prop :=
  match x with
  | .sl l => K l
  | .cap l => K l
  | .lit (.slice none 0 0) => K []
  | .arr k g => match σ.ar k with
    | some en => need (en.gen = g ∧ en.kind = .frz) (K en.l)
    | none => False
  | _ => False

def lenVC (σ : St) (x : V) (K : VK) : Prop :=
  match x with
  | .lit (.slice none 0 0) => K (litInt .i64 0) []
  | .sl l => K (litInt .i64 l.length) []
  | .cap l => K (litInt .i64 l.length) []
  | .arr k g => match σ.ar k with
    | some en => need (en.gen = g ∧ en.kind ≠ .dead) (K (litInt .i64 en.l.length) [])
    | none => False
  | _ => False

def slenVC (x : V) (K : VK) : Prop :=
  match x with
  | .lit (.string s) => K (litInt .i64 s.size) []
  | _ => False

def extractVC (x : V) (i : Nat) (K : VK) : Prop :=
  match x with
  | .tup cs => match cs[i]? with
    | some v => force v fun v => K v []
    | none => False
  | _ => False

/-- the fields of a composite value, laid over its zero -/
noncomputable def fillK (place : Nat → Option (Nat × Nat)) (σ : St) (ps : List (Nat × Operand)) : List V → (List V → Prop) → Prop :=
  List.rec (motive := fun _ => List V → (List V → Prop) → Prop) (fun cs K => forceL cs K)
    (fun p _ ih cs K => match place p.1 with
      | some (o, z) => cond (Nat.beq (lenR (σ.ev p.2).cells) z && Nat.ble (o + z) (lenR cs) && allR V.one (σ.ev p.2).cells) (ih (splice cs o (σ.ev p.2).cells) K) False
      | none => False) ps

noncomputable def buildVC (T : Tab) (r : Row) (σ : St) (ps : List (Nat × Operand)) (K : VK) : Prop :=
  match r.kd with
  | .struct => fillK (fun i => (nth r.flds i).map fun f => (f.1, f.2.1)) σ ps (mapR .lit r.zero) fun cs => K (.agg cs) []
  | .array => cond (Nat.blt r.elem (T.n r.elem)) (fillK (fun i => some (i * (T.row r.elem).size, (T.row r.elem).size)) σ ps (mapR .lit r.zero) fun cs => K (.agg cs) []) False
  | _ => False

/-- a list of cells as elements of a type -/
noncomputable def chunk1 (agg : Bool) (z : Nat) (cs : List V) : V := match agg with | true => V.agg (takeR cs z) | false => (match cs with | x :: _ => x | [] => .bot)
noncomputable def chunk (agg : Bool) (z : Nat) (n : Nat) : List V → List V :=
  Nat.rec (motive := fun _ => List V → List V) (fun _ => []) (fun _ ih cs => chunk1 agg z cs :: ih (dropR cs z)) n

noncomputable def repR {α : Type} (n : Nat) (l : List α) : List α := Nat.rec (motive := fun _ => List α) [] (fun _ ih => appR l ih) n

noncomputable def buildSliceVC (T : Tab) (r : Row) (σ : St) (d : Nat) (n : Nat) (ps : List (Nat × Operand)) (K : VK) : Prop :=
  match r.kd, σ.ar d with
  | .slice, none => cond (Nat.blt r.elem (T.n r.elem) && Nat.ble (n * (T.row r.elem).size) 1000 && Nat.blt 0 (T.row r.elem).size)
      (fillK (fun i => some (i * (T.row r.elem).size, (T.row r.elem).size)) σ ps (repR n (mapR .lit (T.row r.elem).zero)) fun cs =>
        cond (allR V.atom cs) (K (.arr d 0) [.a d ⟨0, .own, r.elem, chunk (T.row r.elem).agg (T.row r.elem).size n cs⟩]) False) False
  | _, _ => False

noncomputable def elemOfCells (r : Row) (cs : List V) : V := match r.agg with | true => .agg cs | false => (match cs with | x :: _ => x | [] => .bot)

noncomputable def makeSliceVC (T : Tab) (r : Row) (σ : St) (d : Nat) (n c : V) (K : VK) : Prop :=
  match r.kd, σ.ar d, n, c with
  | .slice, none, .lit (.int .i64 n), .lit (.int .i64 c) =>
    need (0 ≤ n ∧ n = c ∧ c * (T.row r.elem).bytes ≤ 140737488355328 ∧ c ≤ 140737488355328) (cond (Nat.blt r.elem (T.n r.elem) && Nat.blt 0 (T.row r.elem).size) (K (.arr d 0) [.a d ⟨0, .own, r.elem, List.replicate n.toNat (elemOfCells (T.row r.elem) (mapR .lit (T.row r.elem).zero))⟩]) False)
  | _, _, _, _ => False

noncomputable def appendVC (T : Tab) (r : Row) (σ : St) (d : Nat) (s x : V) (K : VK) : Prop :=
  match r.kd with
  | .slice => cond (Nat.blt r.elem (T.n r.elem) && Nat.blt 0 (T.row r.elem).size) (conts σ x fun xs => match s with
    | .lit (.slice none 0 0) => match σ.ar d with
      | none => need (xs.length * (T.row r.elem).bytes ≤ 140737488355328 ∧ xs.length ≤ 140737488355328 ∧ ∀ x ∈ xs, x.cells.length = (T.row r.elem).size) (K (.arr d 0) [.a d ⟨0, .own, r.elem, xs⟩])
      | some _ => False
    | .cap l => match σ.ar d with
      | none => need ((l.length + xs.length) * (T.row r.elem).bytes ≤ 140737488355328 ∧ l.length + xs.length ≤ 140737488355328 ∧ ∀ x ∈ l ++ xs, x.cells.length = (T.row r.elem).size) (K (.arr d 0) [.a d ⟨0, .ap, r.elem, l ++ xs⟩])
      | some _ => False
    | .arr k g => match σ.ar k with
      | some en => need (en.gen = g ∧ (en.kind = .own ∨ en.kind = .ap) ∧ en.ty = r.elem ∧ (en.l.length + xs.length) * (T.row r.elem).bytes ≤ 140737488355328 ∧ en.l.length + xs.length ≤ 140737488355328 ∧ ∀ x ∈ xs, x.cells.length = (T.row r.elem).size)
          (K (.arr k (g + 1)) [.a k ⟨g + 1, en.kind, r.elem, en.l ++ xs⟩])
      | none => False
    | _ => False) False
  | _ => False

/-- a bound of a slice expression -/
def bound (o : Option V) (dflt : Int) (K : Int → Prop) : Prop :=
  match o with
  | none => K dflt
  | some (.lit (.int _ n)) => K n
  | _ => False

noncomputable def sliceVC (T : Tab) (r : Row) (σ : St) (x : V) (lo hi mx : Option V) (K : VK) : Prop :=
  match r.kd, x with
  | .str, .lit (.string s) => match mx with
    | none => bound lo 0 fun l => bound hi s.size fun h => need (0 ≤ l ∧ l ≤ h ∧ h ≤ s.size) (K (.lit (.string (s.extract l.toNat h.toNat))) [])
    | some _ => False
  | .slice, x => cond (Nat.blt r.elem (T.n r.elem)) (contsF σ x fun xs => bound lo 0 fun l => bound hi xs.length fun h => match mx with
    | none => need (0 ≤ l ∧ l ≤ h ∧ h ≤ xs.length ∧ (l = 0 ∨ ∀ x ∈ xs, x.cells.length = (T.row r.elem).size)) (K (.sl ((xs.take h.toNat).drop l.toNat)) [])
    | some m => match hi with
      | none => False
      | some _ => bound (some m) 0 fun m => need (0 ≤ l ∧ l ≤ h ∧ h ≤ xs.length ∧ m = h ∧ (l = 0 ∨ ∀ x ∈ xs, x.cells.length = (T.row r.elem).size)) (K (.cap ((xs.take h.toNat).drop l.toNat)) [])) False
  | _, _ => False

noncomputable def maxminVC (f : Int → Int → Int) (xs : List V) (K : VK) : Prop :=
  match xs with
  | [.lit (.int k a), .lit (.int _ b)] => K (litInt k (f a b)) []
  | [.lit (.int k a), .lit (.int _ b), .lit (.int _ c)] => K (litInt k (f (f a b) c)) []
  | _ => False

noncomputable def convVC (T : Tab) (s t : TypeId) (x : V) (K : VK) : Prop :=
  match Nat.blt s (T.n s) && Nat.blt t (T.n t), (T.row s).kd, (T.row t).kd, x with
  | true, .int _, .int k, .lit (.int _ n) => arith k n fun m => K (litInt k m) []
  | true, .str, .str, .lit (.string b) => K (.lit (.string b)) []
  | _, _, _, _ => False

/-- a list of bytes -/
structure bytesVC (xs : List V) (K : List Int → Prop) : Prop where
  out : ∃ ns : List Int, xs = ns.map (fun n => V.lit (.int .u8 n)) ∧ K ns
def strOf (ns : List Int) : ByteArray := ns.foldl (fun r n => r.push (UInt8.ofNat n.toNat)) ByteArray.empty
def isU8 : Kd → Bool
  | .int .u8 => true
  | _ => false
def isStr : Kd → Bool
  | .str => true
  | _ => false
/-- conversions; of a slice of bytes to a string among them -/
noncomputable def conv2VC (T : Tab) (σ : St) (s t : TypeId) (x : V) (K : VK) : Prop :=
  match (T.row s).kd with
  | .slice => cond (Nat.blt s (T.n s) && Nat.blt t (T.n t) && isStr (T.row t).kd && isU8 (T.row (T.row s).elem).kd && Nat.blt (T.row s).elem (T.n (T.row s).elem)) (conts σ x fun xs => bytesVC xs fun ns => K (.lit (.string (strOf ns))) []) False
  | _ => convVC T s t x K

/-- one operation, calls of Go functions apart -/
noncomputable def opVC (T : Tab) (σ : St) (d : Nat) (o : Op) (K : VK) : Prop :=
  match o with
  | .move x => force (σ.ev x) fun v => K v []
  | .assign x => force (σ.ev x) fun v => K v []
  | .pick c a b => pickVC (σ.ev c) (σ.ev a) (σ.ev b) K
  | .unOp u _ x => unVC u (σ.ev x) K
  | .binOp op t x y _ => binVC T op t (σ.ev x) (σ.ev y) K
  | .box _ x => newBox σ d (σ.ev x).cells K
  | .alloc t => cond (Nat.blt t (T.n t)) (newBox σ d (mapR .lit (T.row t).zero) K) False
  | .fieldAddr s x f => cond (Nat.blt s (T.n s)) (fieldAddrVC (T.row s) (σ.ev x) f K) False
  | .field s x f => cond (Nat.blt s (T.n s)) (fieldVC T (T.row s) (σ.ev x) f K) False
  | .load t x => cond (Nat.blt t (T.n t)) (loadVC (T.row t) σ (σ.ev x) K) False
  | .store t x y => cond (Nat.blt t (T.n t)) (storeVC (T.row t) σ (σ.ev x) (σ.ev y) K) False
  | .indexAddr t x i => cond (Nat.blt t (T.n t)) (indexAddrVC T (T.row t) σ (σ.ev x) (σ.ev i) K) False
  | .index t x i => cond (Nat.blt t (T.n t)) (indexVC T (T.row t) (σ.ev x) (σ.ev i) K) False
  | .extract x i => extractVC (σ.ev x) i K
  | .makeFunc (.func g) ⟨[]⟩ ⟨[]⟩ => K (.fn g []) []
  | .build t ps => cond (Nat.blt t (T.n t)) (buildVC T (T.row t) σ ps.toList K) False
  | .buildSlice t n ps => cond (Nat.blt t (T.n t)) (buildSliceVC T (T.row t) σ d n ps.toList K) False
  | .makeSlice t n c => cond (Nat.blt t (T.n t)) (makeSliceVC T (T.row t) σ d (σ.ev n) (σ.ev c) K) False
  | .slice t x lo hi mx => cond (Nat.blt t (T.n t)) (sliceVC T (T.row t) σ (σ.ev x) (lo.map σ.ev) (hi.map σ.ev) (mx.map σ.ev) K) False
  | .convert s t x => conv2VC T σ s t (σ.ev x) K
  | .call ⟨.builtin .len, ⟨[x]⟩, ⟨[t]⟩⟩ => cond (Nat.blt t (T.n t)) (match (T.row t).kd with | .slice => lenVC σ (σ.ev x) K | .str => slenVC (σ.ev x) K | _ => False) False
  | .call ⟨.builtin .append, ⟨[s, x]⟩, ⟨[t, t']⟩⟩ => cond (Nat.blt t (T.n t) && Nat.beq t t') (appendVC T (T.row t) σ d (σ.ev s) (σ.ev x) K) False
  | .call ⟨.builtin .max, ⟨as⟩, _⟩ => maxminVC maxI (mapR σ.ev as) K
  | .call ⟨.builtin .min, ⟨as⟩, _⟩ => maxminVC minI (mapR σ.ev as) K
  | _ => False

end Go.Ab
namespace Go.Ab

inductive Tag where
  | ext | fz | bx (i : Nat) | ar (k : Nat)

/-- ghost: where this call's variables lie, what its slices are, and who owns each block -/
structure Gh where
  β : Nat → Nat
  av : Nat → Nat → Value
  O : Nat → Tag

/-- cells from an address on, that hold the values cc -/
def At (w : World) (a : Addr) (cc : Nat → Value) (xs : List V) : Prop :=
  ∀ j y, xs[j]? = some y → w.cell? (a.add j) = some (cc j) ∧ (cc j).oneCell' = true

inductive Rv (w : World) (G : Gh) : Value → V → Prop
  | bot (v : Value) : Rv w G v .bot
  | lit (u : Value) (h : u.oneCell' = true) : Rv w G u (.lit u)
  | agg (cs : Array Value) (xs : List V) (hl : cs.size = xs.length) (ho : ∀ c ∈ cs, c.oneCell' = true)
      (h : ∀ (i : Nat) c x, cs[i]? = some c → xs[i]? = some x → Rv w G c x) : Rv w G (.agg cs) (.agg xs)
  | tup (cs : Array Value) (xs : List V) (hl : cs.size = xs.length)
      (h : ∀ (i : Nat) c x, cs[i]? = some c → xs[i]? = some x → Rv w G c x) : Rv w G (.tuple cs) (.tup xs)
  | slN : Rv w G (.slice none 0 0) (.sl [])
  | slS (a : Addr) (c : Nat) (l : List V) (sz : Nat) (cc : Nat → Value) (hc : l.length ≤ c) (hm : c ≤ maxLen)
      (hf : 0 < l.length → G.O a.block = .fz) (hz : ∀ x ∈ l, x.cells.length = sz)
      (hcell : At w a cc (l.flatMap V.cells))
      (h : ∀ (j : Nat) y, (l.flatMap V.cells)[j]? = some y → Rv w G (cc j) y) : Rv w G (.slice (some a) l.length c) (.sl l)
  | capN : Rv w G (.slice none 0 0) (.cap [])
  | capS (a : Addr) (l : List V) (sz : Nat) (cc : Nat → Value) (hm : l.length ≤ maxLen)
      (hf : 0 < l.length → G.O a.block = .fz) (hz : ∀ x ∈ l, x.cells.length = sz)
      (hcell : At w a cc (l.flatMap V.cells))
      (h : ∀ (j : Nat) y, (l.flatMap V.cells)[j]? = some y → Rv w G (cc j) y) : Rv w G (.slice (some a) l.length l.length) (.cap l)
  | box (i off : Nat) : Rv w G (.pointer (some ⟨G.β i, off, none⟩)) (.box i off)
  | arr (k g : Nat) (h : (G.av k g).oneCell' = true) : Rv w G (G.av k g) (.arr k g)
  | fp (a : Addr) (cs : List V) (cc : Nat → Value) (hf : cs ≠ [] → G.O a.block = .fz) (hcell : At w a cc cs)
      (h : ∀ (j : Nat) y, cs[j]? = some y → Rv w G (cc j) y) : Rv w G (.pointer (some a)) (.fp cs)
  | ae (k g sz i off : Nat) (a : Addr) (n c : Nat) (h : G.av k g = .slice (some a) n c) : Rv w G (.pointer (some (a.add (i * sz + off)))) (.ae k g sz i off)
  | fn (g : FuncId) (lb : Array Value) (caps : List V) (hl : lb.size = caps.length) (h : ∀ (i : Nat) c x, lb[i]? = some c → caps[i]? = some x → Rv w G c x) : Rv w G (.func (.func g) #[] lb) (.fn g caps)

mutual
def V.ok (p : Nat → Prop) (q : Nat → Nat → Prop) : V → Prop
  | .box i _ => p i
  | .arr k g => q k g
  | .ae k g _ _ _ => q k g
  | .agg cs => V.okL p q cs
  | .tup cs => V.okL p q cs
  | .sl l => V.okL (fun _ => False) (fun _ _ => False) l
  | .cap l => V.okL (fun _ => False) (fun _ _ => False) l
  | .fp l => V.okL (fun _ => False) (fun _ _ => False) l
  | .fn _ l => V.okL p q l
  | .own _ l => V.okL (fun _ => False) (fun _ _ => False) l
  | .ap _ l => V.okL (fun _ => False) (fun _ _ => False) l
  | .bot => True
  | .lit _ => True
def V.okL (p : Nat → Prop) (q : Nat → Nat → Prop) : List V → Prop
  | [] => True
  | x :: r => V.ok p q x ∧ V.okL p q r
end

/-- no variable, no array of a call in it -/
abbrev V.pure (x : V) : Prop := x.ok (fun _ => False) (fun _ _ => False)
abbrev pureL (l : List V) : Prop := V.okL (fun _ => False) (fun _ _ => False) l

theorem okL_iff {p : Nat → Prop} {q : Nat → Nat → Prop} {l : List V} : V.okL p q l ↔ ∀ x ∈ l, x.ok p q := by
  induction l with
  | nil => simp [V.okL]
  | cons x r ih => simp [V.okL, ih]

mutual
theorem V.ok.imp {p p' : Nat → Prop} {q q' : Nat → Nat → Prop} (hp : ∀ i, p i → p' i) (hq : ∀ k g, q k g → q' k g) : (x : V) → x.ok p q → x.ok p' q'
  | .box i _, h => by simp only [V.ok] at h ⊢; exact hp _ h
  | .arr k g, h => by simp only [V.ok] at h ⊢; exact hq _ _ h
  | .ae k g _ _ _, h => by simp only [V.ok] at h ⊢; exact hq _ _ h
  | .agg cs, h => by simp only [V.ok] at h ⊢; exact V.okL.imp hp hq cs h
  | .tup cs, h => by simp only [V.ok] at h ⊢; exact V.okL.imp hp hq cs h
  | .sl l, h => by simp only [V.ok] at h ⊢; exact h
  | .cap l, h => by simp only [V.ok] at h ⊢; exact h
  | .fp l, h => by simp only [V.ok] at h ⊢; exact h
  | .fn _ l, h => by simp only [V.ok] at h ⊢; exact V.okL.imp hp hq l h
  | .own _ l, h => by simp only [V.ok] at h ⊢; exact h
  | .ap _ l, h => by simp only [V.ok] at h ⊢; exact h
  | .bot, _ => by simp only [V.ok]
  | .lit _, _ => by simp only [V.ok]
theorem V.okL.imp {p p' : Nat → Prop} {q q' : Nat → Nat → Prop} (hp : ∀ i, p i → p' i) (hq : ∀ k g, q k g → q' k g) : (l : List V) → V.okL p q l → V.okL p' q' l
  | [], _ => by simp only [V.okL]
  | x :: r, h => by simp only [V.okL] at h ⊢; exact ⟨V.ok.imp hp hq x h.1, V.okL.imp hp hq r h.2⟩
end

theorem V.pure.ok {x : V} (h : x.pure) (p : Nat → Prop) (q : Nat → Nat → Prop) : x.ok p q := V.ok.imp (fun _ h => h.elim) (fun _ _ h => h.elim) x h

/-- a step of worlds and ghosts that keeps what stays as it is -/
structure Keep (w w' : World) (G G' : Gh) : Prop where
  fz : ∀ b, G.O b = .fz → G'.O b = .fz
  heap : ∀ b, G.O b = .fz → w'.heap[b]? = w.heap[b]?

theorem Keep.refl (w : World) (G : Gh) : Keep w w G G := ⟨fun _ h => h, fun _ _ => rfl⟩

theorem At.keep {w w' : World} {G G' : Gh} (k : Keep w w' G G') {a : Addr} {cc : Nat → Value} {xs : List V} (h : At w a cc xs) (hf : xs ≠ [] → G.O a.block = .fz) : At w' a cc xs := by
  intro j y hy
  have hb : (a.add j).block = a.block := by unfold Addr.add; split <;> rfl
  have hne : xs ≠ [] := by rintro rfl; simp at hy
  refine ⟨?_, (h j y hy).2⟩
  rw [← (h j y hy).1]
  exact World.cell?_of_block (by rw [hb]; exact k.heap _ (hf hne))

theorem flat_ne {l : List V} (h : l.flatMap V.cells ≠ []) : 0 < l.length := by
  cases l with
  | nil => simp at h
  | cons x r => simp

theorem ok_of_mem_flat {l : List V} (h : pureL l) {j : Nat} {y : V} (hy : (l.flatMap V.cells)[j]? = some y) : y.pure := by
  have hm : y ∈ l.flatMap V.cells := List.mem_of_getElem? hy
  obtain ⟨x, hx, hyx⟩ := List.mem_flatMap.1 hm
  have hxp := okL_iff.1 h x hx
  cases x with
  | agg cs =>
    have : V.okL (fun _ => False) (fun _ _ => False) cs := by simpa only [V.pure, V.ok] using hxp
    exact okL_iff.1 this y hyx
  | _ => simp only [V.cells, List.mem_singleton] at hyx; subst hyx; exact hxp

theorem Rv.keep {w w' : World} {G G' : Gh} (k : Keep w w' G G') {v : Value} {x : V} (h : Rv w G v x) :
    ∀ {p : Nat → Prop} {q : Nat → Nat → Prop}, x.ok p q → (∀ i, p i → G'.β i = G.β i) → (∀ k g, q k g → G'.av k g = G.av k g) → Rv w' G' v x := by
  induction h with
  | bot v => intros; exact .bot v
  | lit u h => intros; exact .lit u h
  | agg cs xs hl ho _ ih =>
    intro p q hok hp hq
    simp only [V.ok] at hok
    exact .agg cs xs hl ho fun i c x hc hx => ih i c x hc hx (okL_iff.1 hok x (List.mem_of_getElem? hx)) hp hq
  | tup cs xs hl _ ih =>
    intro p q hok hp hq
    simp only [V.ok] at hok
    exact .tup cs xs hl fun i c x hc hx => ih i c x hc hx (okL_iff.1 hok x (List.mem_of_getElem? hx)) hp hq
  | slN => intros; exact .slN
  | slS a c l sz cc hc hm hf hz hcell _ ih =>
    intro p q hok hp hq
    simp only [V.ok] at hok
    exact .slS a c l sz cc hc hm (fun h => k.fz _ (hf h)) hz (hcell.keep k fun h => hf (flat_ne h)) fun j y hy =>
      ih j y hy (ok_of_mem_flat hok hy) (fun _ h => h.elim) (fun _ _ h => h.elim)
  | capN => intros; exact .capN
  | capS a l sz cc hm hf hz hcell _ ih =>
    intro p q hok hp hq
    simp only [V.ok] at hok
    exact .capS a l sz cc hm (fun h => k.fz _ (hf h)) hz (hcell.keep k fun h => hf (flat_ne h)) fun j y hy =>
      ih j y hy (ok_of_mem_flat hok hy) (fun _ h => h.elim) (fun _ _ h => h.elim)
  | box i off =>
    intro p q hok hp hq
    simp only [V.ok] at hok
    have := hp i hok
    rw [← this]
    exact .box i off
  | arr k g h =>
    intro p q hok hp hq
    simp only [V.ok] at hok
    have e := hq k g hok
    rw [← e] at h ⊢
    exact .arr k g h
  | fp a cs cc hf hcell _ ih =>
    intro p q hok hp hq
    simp only [V.ok] at hok
    exact .fp a cs cc (fun h => k.fz _ (hf h)) (hcell.keep k hf) fun j y hy => ih j y hy (okL_iff.1 hok y (List.mem_of_getElem? hy)) (fun _ h => h.elim) (fun _ _ h => h.elim)
  | ae k g sz i off a n c h =>
    intro p q hok hp hq
    simp only [V.ok] at hok
    exact .ae k g sz i off a n c ((hq k g hok).trans h)
  | fn g lb caps hl _ ih =>
    intro p q hok hp hq
    simp only [V.ok] at hok
    exact .fn g lb caps hl fun i c x hc hx => ih i c x hc hx (okL_iff.1 hok x (List.mem_of_getElem? hx)) hp hq

/-- a list of cells -/
structure RvL (w : World) (G : Gh) (vs : List Value) (xs : List V) : Prop where
  len : vs.length = xs.length
  one : ∀ v ∈ vs, v.oneCell' = true
  rel : ∀ (i : Nat) v x, vs[i]? = some v → xs[i]? = some x → Rv w G v x

theorem RvL.keep {w w' : World} {G G' : Gh} (k : Keep w w' G G') {vs : List Value} {xs : List V} (h : RvL w G vs xs) {p : Nat → Prop} {q : Nat → Nat → Prop} (hok : V.okL p q xs)
    (hp : ∀ i, p i → G'.β i = G.β i) (hq : ∀ k g, q k g → G'.av k g = G.av k g) : RvL w' G' vs xs :=
  ⟨h.len, h.one, fun i v x hv hx => (h.rel i v x hv hx).keep k (okL_iff.1 hok x (List.mem_of_getElem? hx)) hp hq⟩

/-- the frame of a call: the world at its entry, the blocks that were handed over to it, what stays as it is, its number of slots -/
structure Fr where
  w0 : World
  given : Nat → Prop
  F0 : Nat → Prop
  n : Nat
  arg : Nat → Option Value
  argb : Nat → Option Nat := fun _ => none

def Fr.mine (Φ : Fr) (b : Nat) : Prop := Φ.w0.heap.size ≤ b ∨ Φ.given b

/-- a slice in a block of the call's own -/
def OwnOk (T : Tab) (w : World) (G : Gh) (k : Nat) (u : Value) (ty : TypeId) (l : List V) : Prop :=
  (u = .slice none 0 0 ∧ l = []) ∨
  ∃ b cap cur, u = .slice (some ⟨b, 0, none⟩) l.length cap ∧ G.O b = .ar k ∧ w.heap[b]? = some (.cells cur ty (0, 0)) ∧ l.length ≤ cap ∧ cap ≤ maxLen ∧ cur.size = cap * (T.row ty).size ∧
    (∀ x ∈ l, x.cells.length = (T.row ty).size) ∧ RvL w G (cur.toList.take (l.length * (T.row ty).size)) (l.flatMap V.cells)

def ArrOk (T : Tab) (w : World) (G : Gh) (k : Nat) (en : AE) : Prop :=
  match en.kind with
  | .dead => True
  | .frz => Rv w G (G.av k en.gen) (.sl en.l)
  | .own => en.ty < T.n en.ty ∧ OwnOk T w G k (G.av k en.gen) en.ty en.l
  | .ap => en.ty < T.n en.ty ∧ (OwnOk T w G k (G.av k en.gen) en.ty en.l ∨ (Rv w G (G.av k en.gen) (.cap en.l) ∧ ∀ x ∈ en.l, x.cells.length = (T.row en.ty).size))

def St.hasB (σ : St) (i : Nat) : Prop := ∃ cs, σ.bx i = some cs
def St.hasA (σ : St) (k g : Nat) : Prop := ∃ en, σ.ar k = some en ∧ g ≤ en.gen

structure Inv (T : Tab) (Φ : Fr) (σ : St) (a : Act) (w : World) (G : Gh) : Prop where
  nd : a.defers = []
  sz : a.tmps.size = Φ.n
  env : ∀ s, Rv w G (a.tmps.getD s undef) (σ.env s)
  wfE : ∀ s, (σ.env s).ok σ.hasB σ.hasA
  box : ∀ i cs, σ.bx i = some cs → ∃ c t, w.heap[G.β i]? = some (.cells c t (0, 0)) ∧ RvL w G c.toList cs ∧ G.O (G.β i) = .bx i
  wfB : ∀ i cs, σ.bx i = some cs → V.okL σ.hasB σ.hasA cs
  arr : ∀ k en, σ.ar k = some en → ArrOk T w G k en
  wfA : ∀ k en, σ.ar k = some en → pureL en.l
  tag : ∀ b, G.O b ≠ .ext → b < w.heap.size
  mineB : ∀ b i, G.O b = .bx i → Φ.mine b
  mineA : ∀ b k, G.O b = .ar k → Φ.mine b
  fzm : ∀ b, G.O b = .fz → Φ.F0 b ∨ Φ.mine b
  F0 : ∀ b, Φ.F0 b → G.O b = .fz
  frame : ∀ b, b < Φ.w0.heap.size → ¬ Φ.given b → w.heap[b]? = Φ.w0.heap[b]?
  size : Φ.w0.heap.size ≤ w.heap.size
  os : w.os = Φ.w0.os
  tape : w.tape = Φ.w0.tape
  output : w.output = Φ.w0.output
  args : ∀ j v, Φ.arg j = some v → G.av j 0 = v ∧ j < 8 ∧ ∃ en, σ.ar j = some en
  lay : T.lay Φ.w0 Φ.F0 ∧ ∀ b, Φ.F0 b → b < Φ.w0.heap.size ∧ ¬ Φ.given b
  argb : ∀ i b, Φ.argb i = some b → G.β i = b ∧ (100000 ≤ i ∧ i < 100008) ∧ ∃ cs, σ.bx i = some cs

/-- whatever meets the first state meets the second -/
@[irreducible] def Le (T : Tab) (σ σ' : St) : Prop := ∀ Φ a w G, Inv T Φ σ a w G → ∃ G', Inv T Φ σ' a w G'

/-- at a call: the value v is y, its own block (if it has one) marked j -/
def Rb (T : Tab) (w : World) (G : Gh) (j : Nat) (v : Value) (y : V) : Prop :=
  match y with
  | .own e l => e < T.n e ∧ pureL l ∧ OwnOk T w G j v e l
  | .ap e l => e < T.n e ∧ pureL l ∧ (OwnOk T w G j v e l ∨ (Rv w G v (.cap l) ∧ ∀ x ∈ l, x.cells.length = (T.row e).size))
  | y => y.pure ∧ Rv w G v y

/-- what is handed back: several values are a tuple -/
def Rr (T : Tab) (w : World) (G : Gh) (v : Value) (r : V) : Prop :=
  match r with
  | .tup rs => ∃ vs : Array Value, v = .tuple vs ∧ vs.size = rs.length ∧ ∀ (j : Nat) u y, vs[j]? = some u → rs[j]? = some y → Rb T w G j u y
  | r => Rb T w G 0 v r

/-- a function of the program, with a body -/
def callable (P : Program) (f : FuncId) : Bool :=
  match P.funcs[f]? with
  | some fn => fn.body.isSome && fn.name != "runtime.NumGoroutine"
  | none => false

/-- a contract, with something said of the slices that were handed over -/
def SpecX (T : Tab) (P : Program) (f : FuncId) (ys : List V) (r : V) (X : Array Value → World → Gh → Prop) : Prop :=
  callable P f = true ∧ ∀ (w : World) (G : Gh) (cs : Array Value), cs.size = ys.length → (∀ b, G.O b ≠ .ext → b < w.heap.size) → (∀ b i, G.O b ≠ .bx i) →
    (∀ (j : Nat) v y, cs[j]? = some v → ys[j]? = some y → Rb T w G j v y) → T.lay w (fun b => G.O b = .fz) →
    Calls P f cs w fun e w' => ∃ v G', e = .returned v ∧ (Rr T w' G' v r ∧ X cs w' G') ∧
      (∀ b, G.O b = .fz → G'.O b = .fz) ∧ (∀ b, G'.O b ≠ .ext → b < w'.heap.size) ∧ (∀ b i, G'.O b ≠ .bx i) ∧
      (∀ b, G'.O b ≠ .ext → (G.O b = .fz ∧ G'.O b = .fz) ∨ w.heap.size ≤ b ∨ ∃ j, G.O b = .ar j) ∧
      (∀ b, b < w.heap.size → (∀ j, G.O b ≠ .ar j) → w'.heap[b]? = w.heap[b]?) ∧
      w.heap.size ≤ w'.heap.size ∧ w'.os = w.os ∧ w'.tape = w.tape ∧ w'.output = w.output

/-- THE CONTRACT: called with values that are ys, it returns one that is r; what stays as it is stays, and nothing that was there changes but what was handed over. -/
def Spec (T : Tab) (P : Program) (f : FuncId) (ys : List V) (r : V) : Prop :=
  callable P f = true ∧ ∀ (w : World) (G : Gh) (cs : Array Value), cs.size = ys.length → (∀ b, G.O b ≠ .ext → b < w.heap.size) → (∀ b i, G.O b ≠ .bx i) →
    (∀ (j : Nat) v y, cs[j]? = some v → ys[j]? = some y → Rb T w G j v y) → T.lay w (fun b => G.O b = .fz) →
    Calls P f cs w fun e w' => ∃ v G', e = .returned v ∧ Rr T w' G' v r ∧
      (∀ b, G.O b = .fz → G'.O b = .fz) ∧ (∀ b, G'.O b ≠ .ext → b < w'.heap.size) ∧ (∀ b i, G'.O b ≠ .bx i) ∧
      (∀ b, G'.O b ≠ .ext → (G.O b = .fz ∧ G'.O b = .fz) ∨ w.heap.size ≤ b ∨ ∃ j, G.O b = .ar j) ∧
      (∀ b, b < w.heap.size → (∀ j, G.O b ≠ .ar j) → w'.heap[b]? = w.heap[b]?) ∧
      w.heap.size ≤ w'.heap.size ∧ w'.os = w.os ∧ w'.tape = w.tape ∧ w'.output = w.output

/-- the slice j that was handed over holds l now -/
def IoX (T : Tab) (j : Nat) (e : TypeId) (l : List V) (cs : Array Value) (w : World) (G : Gh) : Prop := pureL l ∧ ∃ t, OwnOk T w G t (cs.getD j undef) e l
/-- THE CONTRACT OF A FUNCTION THAT CHANGES A SLICE IN PLACE -/
def SpecIO (T : Tab) (P : Program) (f : FuncId) (ys : List V) (r : V) (j : Nat) (e : TypeId) (l : List V) : Prop := SpecX T P f ys r (IoX T j e l)

/-! ### variables that are lent: they are numbered from 100000 on; the slices in the cell q of the variable 100000 + i are marked 100000 * (i + 1) + q -/
/-- at a call with n variables that are lent: the value v is y -/
def RbB (T : Tab) (w : World) (G : Gh) (n j : Nat) (v : Value) (y : V) : Prop :=
  match y with
  | .own e l => e < T.n e ∧ pureL l ∧ OwnOk T w G j v e l
  | .ap e l => e < T.n e ∧ pureL l ∧ (OwnOk T w G j v e l ∨ (Rv w G v (.cap l) ∧ ∀ x ∈ l, x.cells.length = (T.row e).size))
  | y => y.ok (fun i => 100000 ≤ i ∧ i < 100000 + n) (fun _ _ => False) ∧ Rv w G v y
def RrB (T : Tab) (w : World) (G : Gh) (n : Nat) (v : Value) (r : V) : Prop :=
  match r with
  | .tup rs => ∃ vs : Array Value, v = .tuple vs ∧ vs.size = rs.length ∧ ∀ (j : Nat) u y, vs[j]? = some u → rs[j]? = some y → RbB T w G n j u y
  | r => RbB T w G n 0 v r
/-- the variables that are lent hold bs -/
def BxOk (T : Tab) (w : World) (G : Gh) (bs : List (List V)) : Prop :=
  ∀ i b, bs[i]? = some b → G.O (G.β (100000 + i)) = .bx (100000 + i) ∧ ∃ c t, w.heap[G.β (100000 + i)]? = some (.cells c t (0, 0)) ∧ c.size = b.length ∧
    ∀ (q : Nat) v y, c[q]? = some v → b[q]? = some y → v.oneCell' = true ∧ RbB T w G bs.length (100000 * (i + 1) + q) v y

/-- THE CONTRACT OF A FUNCTION TO WHICH VARIABLES ARE LENT: they hold bs before it and bs' behind it -/
def SpecB (T : Tab) (P : Program) (f : FuncId) (ys : List V) (bs : List (List V)) (r : V) (bs' : List (List V)) : Prop :=
  callable P f = true ∧ bs'.map List.length = bs.map List.length ∧ ∀ (w : World) (G : Gh) (cs : Array Value), cs.size = ys.length → (∀ b, G.O b ≠ .ext → b < w.heap.size) →
    (∀ b i, G.O b = .bx i → 100000 ≤ i ∧ i < 100000 + bs.length ∧ b = G.β i) → BxOk T w G bs →
    (∀ (j : Nat) v y, cs[j]? = some v → ys[j]? = some y → RbB T w G bs.length j v y) → T.lay w (fun b => G.O b = .fz) →
    Calls P f cs w fun e w' => ∃ v G', e = .returned v ∧ RrB T w' G' bs.length v r ∧ BxOk T w' G' bs' ∧ (∀ i, i < bs.length → G'.β (100000 + i) = G.β (100000 + i)) ∧
      (∀ b, G.O b = .fz → G'.O b = .fz) ∧ (∀ b, G'.O b ≠ .ext → b < w'.heap.size) ∧
      (∀ b, G'.O b ≠ .ext → (G.O b = .fz ∧ G'.O b = .fz) ∨ w.heap.size ≤ b ∨ (∃ j, G.O b = .ar j) ∨ (∃ i, G.O b = .bx i ∧ G'.O b = .bx i)) ∧
      (∀ b, b < w.heap.size → (∀ j, G.O b ≠ .ar j) → (∀ i, G.O b ≠ .bx i) → w'.heap[b]? = w.heap[b]?) ∧
      w.heap.size ≤ w'.heap.size ∧ w'.os = w.os ∧ w'.tape = w.tape ∧ w'.output = w.output

theorem Spec.x {T : Tab} {P : Program} {f : FuncId} {ys : List V} {r : V} (h : Spec T P f ys r) : SpecX T P f ys r (fun _ _ _ => True) := by
  refine ⟨h.1, fun w G cs h1 h2 h3 h4 h5 => (h.2 w G cs h1 h2 h3 h4 h5).mono ?_⟩
  rintro e w' ⟨v, G', q1, q2, q3⟩
  exact ⟨v, G', q1, ⟨q2, trivial⟩, q3⟩

end Go.Ab
namespace Go.Ab

/-- y is a plain view of the cell x -/
noncomputable def viewVC (ar : Nat → Option AE) (x y : V) : Prop :=
  match y with
  | .sl l => match x with
    | .sl l' => l' = l
    | .cap l' => l' = l
    | .lit (.slice none 0 0) => l = []
    | .arr k g => match ar k with
      | some en => en.gen = g ∧ en.kind ≠ .dead ∧ en.l = l
      | none => False
    | _ => False
  | .cap l => match x with
    | .cap l' => l' = l
    | .lit (.slice none 0 0) => l = []
    | _ => False
  | .lit u => match x with
    | .lit u' => u' = u
    | _ => False
  | .fp l => match x with
    | .fp l' => l' = l
    | _ => False
  | .fn g l => match x with
    | .fn g' l' => g' = g ∧ l' = l ∧ allR V.still l = true
    | _ => False
  | _ => False

noncomputable def viewL (ar : Nat → Option AE) (ys : List V) : List V → Prop :=
  List.rec (motive := fun _ => List V → Prop) (fun xs => match xs with | [] => True | _ :: _ => False)
    (fun y _ ih xs => match xs with | x :: xr => viewVC ar x y ∧ ih xr | [] => False) ys

/-- x of the frame is handed over as y -/
noncomputable def giveVC (T : Tab) (ar : Nat → Option AE) (x y : V) : Prop :=
  match y with
  | .own e l => match x with
    | .lit (.slice none 0 0) => e < T.n e ∧ l = []
    | .arr k g => match ar k with
      | some en => en.gen = g ∧ en.kind = .own ∧ en.ty = e ∧ en.l = l
      | none => False
    | _ => False
  | .ap e l => match x with
    | .lit (.slice none 0 0) => e < T.n e ∧ l = []
    | .cap l' => e < T.n e ∧ (∀ x ∈ l', x.cells.length = (T.row e).size) ∧ l' = l
    | .arr k g => match ar k with
      | some en => en.gen = g ∧ (en.kind = .own ∨ en.kind = .ap) ∧ en.ty = e ∧ en.l = l
      | none => False
    | _ => False
  | .agg ys => match x with
    | .agg xs => viewL ar ys xs
    | _ => False
  | y => viewVC ar x y

noncomputable def giveL (T : Tab) (ar : Nat → Option AE) (ys : List V) : List V → Prop :=
  List.rec (motive := fun _ => List V → Prop) (fun xs => match xs with | [] => True | _ :: _ => False)
    (fun y _ ih xs => match xs with | x :: xr => giveVC T ar x y ∧ ih xr | [] => False) ys

/-- the arrays that x names -/
def akey (x : V) : List Nat := match x with | .arr k _ => [k] | _ => []
noncomputable def akeys (x : V) : List Nat :=
  match x with
  | .arr k _ => [k]
  | .agg cs => List.rec (motive := fun _ => List Nat) [] (fun x _ ih => appR (akey x) ih) cs
  | _ => []
def linear (y : V) : Bool := match y with | .own _ _ => true | .ap _ _ => true | _ => false
/-- the arrays that are handed over, and those that are looked at -/
noncomputable def ownKeys (ys : List V) : List V → List Nat :=
  List.rec (motive := fun _ => List V → List Nat) (fun _ => []) (fun y _ ih xs => match xs with | x :: xr => appR (cond (linear y) (akeys x) []) (ih xr) | [] => []) ys
noncomputable def viewKeys (ys : List V) : List V → List Nat :=
  List.rec (motive := fun _ => List V → List Nat) (fun _ => []) (fun y _ ih xs => match xs with | x :: xr => appR (cond (linear y) [] (akeys x)) (ih xr) | [] => []) ys
noncomputable def memR (k : Nat) (l : List Nat) : Bool := List.rec (motive := fun _ => Bool) false (fun x _ ih => cond (Nat.beq k x) true ih) l
noncomputable def nodupR (l : List Nat) : Bool := List.rec (motive := fun _ => Bool) true (fun x r ih => cond (memR x r) false ih) l

def flat1 (x : V) : Bool := match x with | .lit _ => true | _ => false
noncomputable def flatA (x : V) : Bool := match x with | .lit _ => true | .agg cs => allR flat1 cs | _ => false
noncomputable def flatV (x : V) : Bool := match x with | .lit _ => true | .agg cs => allR flat1 cs | .tup cs => allR flatA cs | _ => false

/-- what is handed over is handed over once, and not looked at besides -/
noncomputable def keysOk (xs ys : List V) : Bool := nodupR (ownKeys ys xs) && allR (fun k => !memR k (viewKeys ys xs)) (ownKeys ys xs)

noncomputable def deadMods (σ : St) (ks : List Nat) : List Mod :=
  List.rec (motive := fun _ => List Mod) [] (fun k _ ih => match σ.ar k with | some en => .a k ⟨en.gen, .dead, en.ty, []⟩ :: ih | none => ih) ks
noncomputable def frzMods (σ : St) (ks : List Nat) : List Mod :=
  List.rec (motive := fun _ => List Mod) [] (fun k _ ih => match σ.ar k with
    | some en => match en.kind with
      | .own => .a k ⟨en.gen, .frz, en.ty, en.l⟩ :: ih
      | .ap => .a k ⟨en.gen, .frz, en.ty, en.l⟩ :: ih
      | _ => ih
    | none => ih) ks
noncomputable def reuse (σ : St) (ks : List Nat) : Option (Nat × Nat) :=
  match ks with
  | k :: _ => match σ.ar k with
    | some en => some (k, en.gen + 1)
    | none => none
  | [] => none

/-- results as they come into the frame -/
noncomputable def recvL (σ : St) (d : Nat) (rs : List V) : Nat → Option (Nat × Nat) → (List V → List Mod → Prop) → Prop :=
  List.rec (motive := fun _ => Nat → Option (Nat × Nat) → (List V → List Mod → Prop) → Prop) (fun _ _ K => K [] [])
    (fun y _ ih j ro K => match y with
      | .own e l => match ro with
        | some (k, g) => ih (j + 1) none fun vs ms => K (.arr k g :: vs) (.a k ⟨g, .own, e, l⟩ :: ms)
        | none => match σ.ar (d + 1000 * j) with
          | none => ih (j + 1) none fun vs ms => K (.arr (d + 1000 * j) 0 :: vs) (.a (d + 1000 * j) ⟨0, .own, e, l⟩ :: ms)
          | some _ => False
      | .ap e l => match ro with
        | some (k, g) => ih (j + 1) none fun vs ms => K (.arr k g :: vs) (.a k ⟨g, .ap, e, l⟩ :: ms)
        | none => match σ.ar (d + 1000 * j) with
          | none => ih (j + 1) none fun vs ms => K (.arr (d + 1000 * j) 0 :: vs) (.a (d + 1000 * j) ⟨0, .ap, e, l⟩ :: ms)
          | some _ => False
      | y => force y fun y => ih (j + 1) ro fun vs ms => K (y :: vs) ms) rs
noncomputable def recvK (σ : St) (d : Nat) (ro : Option (Nat × Nat)) (r : V) (K : VK) : Prop :=
  match r with
  | .tup rs => recvL σ d rs 0 ro fun vs ms => K (.tup vs) ms
  | r => recvL σ d [r] 0 ro fun vs ms => match vs with | v :: _ => K v ms | [] => False

/-- light: nothing is handed over, nothing is frozen -/
noncomputable def callOk (light lend : Bool) (xs ys : List V) (r : V) : Bool :=
  keysOk xs ys && Nat.ble (lenR (ownKeys ys xs)) 1 && (cond lend (flatV r) true) && (cond light (Nat.beq (lenR (ownKeys ys xs)) 0 && (lend || Nat.beq (lenR (viewKeys ys xs)) 0)) true)

/-! ### calls with variables that are lent -/
/-- x of the frame is y of the callee's, the variables 'is' being lent: an address of one of them, or what stays as it is -/
noncomputable def refVC (is : List Nat) (x y : V) : Prop :=
  match y with
  | .box b off => match x with
    | .box i off' => nth is (Nat.sub b 100000) = some i ∧ Nat.ble 100000 b = true ∧ off' = off
    | _ => False
  | .fp l => match x with | .fp l' => l' = l | _ => False
  | .lit u => match x with | .lit u' => u' = u | _ => False
  | _ => False
noncomputable def refL (is : List Nat) (ys : List V) : List V → Prop :=
  List.rec (motive := fun _ => List V → Prop) (fun xs => match xs with | [] => True | _ :: _ => False)
    (fun y _ ih xs => match xs with | x :: xr => refVC is x y ∧ ih xr | [] => False) ys
noncomputable def giveB (T : Tab) (ar : Nat → Option AE) (is : List Nat) (x y : V) : Prop :=
  match y with
  | .bot => True
  | .box b off => refVC is x (.box b off)
  | .fn g ys => match x with | .fn g' xs => g' = g ∧ refL is ys xs | _ => False
  | y => giveVC T ar x y
noncomputable def giveBL (T : Tab) (ar : Nat → Option AE) (is : List Nat) (ys : List V) : List V → Prop :=
  List.rec (motive := fun _ => List V → Prop) (fun xs => match xs with | [] => True | _ :: _ => False)
    (fun y _ ih xs => match xs with | x :: xr => giveB T ar is x y ∧ ih xr | [] => False) ys
/-- the cells of the variables that are lent, beside what the callee takes them for -/
noncomputable def grpsR (bx : Nat → Option (List V)) (bs : List (List V)) : List Nat → List (List V × List V) :=
  List.rec (motive := fun _ => List Nat → List (List V × List V)) (fun _ => []) (fun b _ ih is => match is with
    | i :: ir => (match bx i with | some cs => cs | none => [], b) :: ih ir
    | [] => []) bs
noncomputable def giveG (T : Tab) (ar : Nat → Option AE) (is : List Nat) (gs : List (List V × List V)) : Prop :=
  List.rec (motive := fun _ => Prop) True (fun g _ ih => giveBL T ar is g.2 g.1 ∧ ih) gs
noncomputable def ownG (gs : List (List V × List V)) : List Nat := List.rec (motive := fun _ => List Nat) [] (fun g _ ih => appR (ownKeys g.2 g.1) ih) gs
noncomputable def viewG (gs : List (List V × List V)) : List Nat := List.rec (motive := fun _ => List Nat) [] (fun g _ ih => appR (viewKeys g.2 g.1) ih) gs

/-- another numbering of the variables -/
noncomputable def V.ren (f : Nat → Nat) (x : V) : V :=
  V.rec (motive_1 := fun _ => V) (motive_2 := fun _ => List V)
    .bot (fun u => .lit u) (fun _ ih => .agg ih) (fun _ ih => .tup ih) (fun l _ => .sl l) (fun l _ => .cap l) (fun e l _ => .own e l) (fun e l _ => .ap e l)
    (fun j off => .box (f j) off) (fun k g => .arr k g) (fun l _ => .fp l) (fun k g z i o => .ae k g z i o) (fun g _ ih => .fn g ih)
    [] (fun _ _ ih1 ih2 => ih1 :: ih2) x
noncomputable def nthD (is : List Nat) (n : Nat) : Nat := match nth is n with | some i => i | none => 0
noncomputable def renF (is : List Nat) (b : Nat) : Nat := nthD is (Nat.sub b 100000)

/-- a slice that comes back: under the number of the one that was handed over in its place, or under a new one -/
noncomputable def backA (ar : Nat → Option AE) (ok : List Nat) (N : Nat) (kd : AK) (e : TypeId) (l : List V) (x : V) (K : V → Mod → Prop) : Prop :=
  match x with
  | .arr k _ => match memR k ok with
    | true => match ar k with
      | some en => K (.arr k (en.gen + 1)) (.a k ⟨en.gen + 1, kd, e, l⟩)
      | none => False
    | false => match ar N with
      | none => K (.arr N 0) (.a N ⟨0, kd, e, l⟩)
      | some _ => False
  | _ => match ar N with
    | none => K (.arr N 0) (.a N ⟨0, kd, e, l⟩)
    | some _ => False
noncomputable def backL (ar : Nat → Option AE) (is ok : List Nat) (ys : List V) : List V → Nat → (List V → List Mod → Prop) → Prop :=
  List.rec (motive := fun _ => List V → Nat → (List V → List Mod → Prop) → Prop) (fun xs _ K => match xs with | [] => K [] [] | _ :: _ => False)
    (fun y _ ih xs N K => match xs with
      | [] => False
      | x :: xr => match y with
        | .own e l => backA ar ok N .own e l x fun v m => ih xr (N + 1000) fun vs ms => K (v :: vs) (m :: ms)
        | .ap e l => backA ar ok N .ap e l x fun v m => ih xr (N + 1000) fun vs ms => K (v :: vs) (m :: ms)
        | y => force (y.ren (renF is)) fun v => ih xr (N + 1000) fun vs ms => K (v :: vs) ms) ys
/-- the variables as they come back -/
noncomputable def backB (bx : Nat → Option (List V)) (ar : Nat → Option AE) (is0 ok : List Nat) (bs : List (List V)) : List Nat → Nat → (List Mod → Prop) → Prop :=
  List.rec (motive := fun _ => List Nat → Nat → (List Mod → Prop) → Prop) (fun is _ K => match is with | [] => K [] | _ :: _ => False)
    (fun b _ ih is N K => match is with
      | [] => False
      | i :: ir => match bx i with
        | some cs => backL ar is0 ok b cs N fun vs ms => ih ir (N + 1000000) fun ns => K (appR ms (.b i vs :: ns))
        | none => False) bs
noncomputable def backK (bx : Nat → Option (List V)) (ar : Nat → Option AE) (is ok : List Nat) (d : Nat) (r : V) (bs : List (List V)) (K : VK) : Prop :=
  match r with
  | .tup rs => backL ar is ok rs (mapR (fun _ => .bot) rs) d fun vs ms => backB bx ar is ok bs is (d + 1000000) fun ns => K (.tup vs) (appR ms ns)
  | r => backL ar is ok [r] [.bot] d fun vs ms => match vs with
    | v :: _ => backB bx ar is ok bs is (d + 1000000) fun ns => K v (appR ms ns)
    | [] => False
def isS {α : Type} (o : Option α) : Bool := match o with | some _ => true | none => false
noncomputable def callOkB (bx : Nat → Option (List V)) (gs : List (List V × List V)) (is : List Nat) (bs : List (List V)) (r : V) : Bool :=
  nodupR (ownG gs) && allR (fun k => !memR k (viewG gs)) (ownG gs) && nodupR is && Nat.beq (lenR is) (lenR bs) && allR (fun i => isS (bx i)) is && allR (fun b => Nat.blt (lenR b) 1000) bs && Nat.ble (lenR is) 8 &&
    (match r with | .tup rs => Nat.blt (lenR rs) 1000 | _ => true)

/-- how a region is carried out: in the order of the text, or in any order, with calls (known by their slots) that change variables (those listed) -/
inductive Md where
  | free
  | drawn (hv : List (Nat × List Nat))
def Md.light : Md → Bool
  | .free => false
  | .drawn _ => true
noncomputable def hvOf (hv : List (Nat × List Nat)) (d : Nat) : Option (List Nat) := List.rec (motive := fun _ => Option (List Nat)) none (fun p _ ih => cond (Nat.beq d p.1) (some p.2) ih) hv
noncomputable def Md.may (m : Md) (d : Nat) (is : List Nat) (gs : List (List V × List V)) : Bool :=
  match m with
  | .free => true
  | .drawn hv => match hvOf hv d with
    | some bl => allR (fun i => memR i bl) is && Nat.beq (lenR (ownG gs)) 0 && Nat.beq (lenR (viewG gs)) 0
    | none => false

structure callVC (T : Tab) (P : Program) (light : Md) (σ : St) (d : Nat) (f : FuncId) (xs : List V) (K : VK) : Prop where
  out : (∃ (ys : List V) (r : V) (lend : Bool), giveL T σ.ar ys xs ∧ callOk light.light lend xs ys r = true ∧ Spec T P f ys r ∧
    recvK σ d (reuse σ (ownKeys ys xs)) r fun v ms => K v (appR (cond lend [] (frzMods σ (viewKeys ys xs))) (appR (deadMods σ (ownKeys ys xs)) ms))) ∨
    (light = .free ∧ ∃ (ys : List V) (r : V) (j k g : Nat) (e : TypeId) (l l' : List V), giveL T σ.ar ys xs ∧ callOk false false xs ys r = true ∧ SpecIO T P f ys r j e l' ∧
      ys[j]? = some (.own e l) ∧ xs[j]? = some (.arr k g) ∧ flatV r = true ∧
      K r (appR (frzMods σ (viewKeys ys xs)) (appR (deadMods σ (ownKeys ys xs)) [.a k ⟨g, .own, e, l'⟩]))) ∨
    (∃ (ys : List V) (is : List Nat) (bs : List (List V)) (r : V) (bs' : List (List V)), light.may d is ((xs, ys) :: grpsR σ.bx bs is) = true ∧ giveG T σ.ar is ((xs, ys) :: grpsR σ.bx bs is) ∧ callOkB σ.bx ((xs, ys) :: grpsR σ.bx bs is) is bs r = true ∧ SpecB T P f ys bs r bs' ∧
      backK σ.bx σ.ar is (ownG ((xs, ys) :: grpsR σ.bx bs is)) d r bs' fun v ms => K v (appR (frzMods σ (viewG ((xs, ys) :: grpsR σ.bx bs is))) (appR (deadMods σ (ownG ((xs, ys) :: grpsR σ.bx bs is))) ms)))

def nilB (bop : BinOp) (b : Bool) : Bool := match bop with | .eql => b | _ => !b
/-- a slice against nil: an empty slice may be nil or not -/
structure nilVC (T : Tab) (bop : BinOp) (t : TypeId) (c : Value) (l : List V) (K : VK) : Prop where
  c0 : c = .slice none 0 0
  ty : t < T.n t
  kd : (T.row t).kd = .slice
  op : bop = .eql ∨ bop = .neq
  out : ∀ b : Bool, (l ≠ [] → b = false) → K (B (nilB bop b)) []

noncomputable def operVC (T : Tab) (P : Program) (light : Md) (σ : St) (d : Nat) (op : Op) (K : VK) : Prop :=
  match op with
  | .call ⟨.value (.func f), ⟨as⟩, _⟩ => forceL (mapR σ.ev as) fun xs => callVC T P light σ d f xs K
  | .call ⟨.value (.tmp t), ⟨as⟩, _⟩ => match σ.env t with
    | .fn g caps => forceL (mapR σ.ev as) fun xs => callVC T P light σ d g (appR xs caps) K
    | _ => False
  | .slice t (.tmp x) lo hi mx => match light, σ.env x with
    | .free, .arr k _ => match σ.ar k with
      | some ⟨gen, .own, ty, l⟩ => opVC T (σ.apps [.a k ⟨gen, .frz, ty, l⟩]) d (.slice t (.tmp x) lo hi mx) fun v ms => K v (.a k ⟨gen, .frz, ty, l⟩ :: ms)
      | some ⟨gen, .ap, ty, l⟩ => opVC T (σ.apps [.a k ⟨gen, .frz, ty, l⟩]) d (.slice t (.tmp x) lo hi mx) fun v ms => K v (.a k ⟨gen, .frz, ty, l⟩ :: ms)
      | _ => opVC T σ d (.slice t (.tmp x) lo hi mx) K
    | _, _ => opVC T σ d (.slice t (.tmp x) lo hi mx) K
  | .binOp bop t (.tmp x) (.const c) t' => match light, σ.env x with
    | .free, .sl l => nilVC T bop t c l K
    | _, _ => opVC T σ d (.binOp bop t (.tmp x) (.const c) t') K
  | op => opVC T σ d op K

abbrev OpsK := (Nat → V) → (Nat → Option (List V)) → (Nat → Option AE) → (St → Prop) → Prop

noncomputable def appsS (ms : List Mod) : (env : Nat → V) → (bx : Nat → Option (List V)) → (ar : Nat → Option AE) → (K : (Nat → V) → (Nat → Option (List V)) → (Nat → Option AE) → Prop) → Prop :=
  List.rec (motive := fun _ => (env : Nat → V) → (bx : Nat → Option (List V)) → (ar : Nat → Option AE) → (K : (Nat → V) → (Nat → Option (List V)) → (Nat → Option AE) → Prop) → Prop)
    (fun env bx ar K => K env bx ar)
    (fun m _ ih env bx ar K => match m with
      | .b i cs => ih env (upd bx i (some cs)) ar K
      | .a k en => ih env bx (upd ar k (some en)) K) ms

noncomputable def guardSlot (ops : List Oper) (j : Nat) : Option Nat := (nth ops j).bind (·.dst)

/-- an operation that is carried out -/
noncomputable def runOp (T : Tab) (P : Program) (light : Md) (n : Nat) (dst : Option Nat) (op : Op) (ih : OpsK) : OpsK := fun env bx ar K =>
  match dst with
  | some d => cond (Nat.blt d n) (operVC T P light ⟨env, bx, ar⟩ d op fun v ms => appsS ms env bx ar fun env bx ar => ih (upd env d v) bx ar K) False
  | none => operVC T P light ⟨env, bx, ar⟩ n op fun _ ms => appsS ms env bx ar fun env bx ar => ih env bx ar K
/-- the variables that a function value captures become cells that stay as they are -/
noncomputable def capsK (rf : Bool) (ar : Nat → Option AE) (xs : List Operand) : (Nat → V) → (Nat → Option (List V)) → ((Nat → V) → (Nat → Option (List V)) → List V → Prop) → Prop :=
  List.rec (motive := fun _ => (Nat → V) → (Nat → Option (List V)) → ((Nat → V) → (Nat → Option (List V)) → List V → Prop) → Prop) (fun env bx K => K env bx [])
    (fun c _ ih env bx K => match St.ev ⟨env, bx, ar⟩ c with
      | .box i off => match off, bx i with
        | 0, some cells => match rf with
          | true => ih env bx fun env bx caps => K env bx (.box i 0 :: caps)
          | false => forceL cells fun cells => cond (allR V.atom cells && Nat.blt i 100000) (ih (fun s => (env s).frz i cells) (frzB i cells bx) fun env bx caps => K env bx (.fp cells :: caps)) False
        | _, _ => False
      | .fp cs => ih env bx fun env bx caps => K env bx (.fp cs :: caps)
      | _ => False) xs

/-- an operation without a guard -/
noncomputable def runOpF (T : Tab) (P : Program) (light : Md) (n : Nat) (dst : Option Nat) (op : Op) (ih : OpsK) : OpsK := fun env bx ar K =>
  match op with
  | .makeFunc (.func g) ⟨[]⟩ ⟨c :: cs⟩ => match light, dst with
    | .free, some d => cond (Nat.blt d n) (capsK (T.ref g) ar (c :: cs) env bx fun env bx caps => ih (upd env d (.fn g caps)) bx ar K) False
    | _, _ => False
  | op => runOp T P light n dst op ih env bx ar K

/-- one that is not -/
def skipOp (n : Nat) (dst : Option Nat) (ih : OpsK) : OpsK := fun env bx ar K =>
  match dst with
  | some d => cond (Nat.blt d n) (ih (upd env d (.tup [])) bx ar K) False
  | none => ih env bx ar K

noncomputable def opStep (T : Tab) (P : Program) (light : Md) (n : Nat) (ops : List Oper) (o : Oper) (ih : OpsK) : OpsK := fun env bx ar K =>
  match o with
  | ⟨dst, op, _, _, _, guard⟩ =>
    match guard with
    | none => runOpF T P light n dst op ih env bx ar K
    | some (j, want) =>
      match guardSlot ops j with
      | some s => match env s with
        | .lit (.bool b) =>
          branch b
            (cond want (runOp T P light n dst op ih (upd env s (B true)) bx ar K) (skipOp n dst ih (upd env s (B true)) bx ar K))
            (cond want (skipOp n dst ih (upd env s (B false)) bx ar K) (runOp T P light n dst op ih (upd env s (B false)) bx ar K))
        | .tup _ => skipOp n dst ih env bx ar K
        | _ => False
      | none => False

noncomputable def opsVC (T : Tab) (P : Program) (light : Md) (n : Nat) (ops l : List Oper) : OpsK :=
  List.rec (motive := fun _ => OpsK) (fun env bx ar K => K ⟨env, bx, ar⟩) (fun o _ ih => opStep T P light n ops o ih) l

/-! ### regions that draw their order -/
def cls : Op → Nat
  | .move _ => 0
  | .assign _ => 0
  | .pick _ _ _ => 0
  | .unOp _ _ _ => 0
  | .binOp _ _ _ _ _ => 0
  | .fieldAddr _ _ _ => 0
  | .field _ _ _ => 0
  | .extract _ _ => 0
  | .makeFunc (.func _) ⟨[]⟩ ⟨[]⟩ => 0
  | .build _ _ => 0
  | .convert _ _ _ => 2
  | .index _ _ _ => 0
  | .call ⟨.builtin .max, _, _⟩ => 0
  | .call ⟨.builtin .min, _, _⟩ => 0
  | .box _ _ => 1
  | .alloc _ => 1
  | .buildSlice _ _ _ => 1
  | .makeSlice _ _ _ => 1
  | .load _ _ => 2
  | .indexAddr _ _ _ => 2
  | .slice _ _ _ _ _ => 2
  | .call ⟨.builtin .len, _, _⟩ => 2
  | .call ⟨.value (.func _), _, _⟩ => 3
  | .call ⟨.value (.tmp _), _, _⟩ => 3
  | .store _ _ _ => 4
  | .call ⟨.builtin .append, _, _⟩ => 4
  | _ => 5

def clash (a b : Nat) : Bool := (Nat.ble 4 a && Nat.ble 2 b) || (Nat.ble 4 b && Nat.ble 2 a) || Nat.ble 5 a || Nat.ble 5 b

def maskOf (ms : List Nat) (o : Oper) : Nat := o.after.foldl (fun m e => if Region.binds .any e then m ||| 2 ^ e.on ||| ms.getD e.on 0 else m) 0
/-- of each operation the set of those that must come before it -/
def masks (ops : List Oper) : List Nat := ops.foldl (fun ms o => ms ++ [maskOf ms o]) []

/-- what is claimed of a slot: that it holds the address of this variable of the call -/
def claim (cl : List (Nat × Nat)) (u : Nat) : Option Nat := (cl.find? fun q => Nat.beq q.1 u).map (·.2)
def claimIs (cl : List (Nat × Nat)) (x : Operand) (i : Nat) : Bool :=
  match x with
  | .tmp u => match claim cl u with | some j => Nat.beq i j | none => false
  | .const _ => true
  | _ => false
/-- an operation that writes a claimed slot keeps the claim -/
def claimOk (cl : List (Nat × Nat)) (o : Oper) : Bool :=
  match o.dst with
  | none => true
  | some d => match claim cl d with
    | none => true
    | some i => match o.op with
      | .fieldAddr _ x _ => claimIs cl x i
      | .indexAddr _ x _ => claimIs cl x i
      | .move x => claimIs cl x i
      | _ => false
/-- a store to another variable than the claimed one, or an append -/
def sepO (cl : List (Nat × Nat)) (i : Nat) (o : Op) : Bool :=
  match o with
  | .store _ (.tmp u') _ => match claim cl u' with | some j => !Nat.beq i j | none => false
  | .call ⟨.builtin .append, _, _⟩ => true
  | _ => false
def isApp (o : Op) : Bool := match o with | .call ⟨.builtin .append, _, _⟩ => true | _ => false
/-- a load from a claimed variable or the address of an element of what stays, and a store to another one or an append -/
def loadSep (cl : List (Nat × Nat)) (p o : Op) : Bool :=
  match p with
  | .load _ (.tmp u) => match claim cl u with
    | some i => sepO cl i o
    | none => false
  | .indexAddr _ (.tmp u) x => match claim cl u with
    | some i => claimIs cl x i && sepO cl i o
    | none => false
  | .slice _ _ _ _ _ => isApp o
  | _ => false

def isCallV (o : Op) : Bool := match o with | .call ⟨.value _, _, _⟩ => true | _ => false
/-- a call that changes variables -/
noncomputable def hvO (hv : List (Nat × List Nat)) (o : Oper) : Bool := isCallV o.op && (match o.dst with | some d => isS (hvOf hv d) | none => !hv.isEmpty)
noncomputable def clsH (hv : List (Nat × List Nat)) (o : Oper) : Nat := cond (hvO hv o) 5 (cls o.op)
/-- an operation that changes nothing and looks at no memory, or at a variable that the call does not change -/
def quietB (cl : List (Nat × Nat)) (bl : List Nat) (o : Op) : Bool :=
  match o with
  | .load _ (.tmp u) => match claim cl u with | some i => !bl.contains i | none => false
  | .fieldAddr _ _ _ => true
  | .move _ => true
  | _ => false
noncomputable def blOf (hv : List (Nat × List Nat)) (o : Oper) : Option (List Nat) := match isCallV o.op, o.dst with | true, some d => hvOf hv d | _, _ => none
noncomputable def hvSep (cl : List (Nat × Nat)) (hv : List (Nat × List Nat)) (p o : Oper) : Bool :=
  (match blOf hv o with | some bl => quietB cl bl p.op | none => false) || (match blOf hv p with | some bl => quietB cl bl o.op | none => false)

/-- each operation waits only for ones ahead of it in the text; two of which neither waits for the other do not touch each other -/
noncomputable def regionOkC (cl : List (Nat × Nat)) (hv : List (Nat × List Nat)) (ops : List Oper) : Bool :=
  let ms := masks ops
  ops.all (claimOk cl) && ops.zipIdx.all fun (o, k) => o.after.all (fun e => !Region.binds .any e || decide (e.on < k)) && !(o.op matches .select _ _) &&
    (ops.take k).zipIdx.all fun (p, i) => (ms.getD k 0).testBit i || (Oper.apart ops.toArray p o && Oper.apart ops.toArray o p && (!clash (clsH hv p) (clsH hv o) || (loadSep cl p.op o.op && !hvO hv p && !hvO hv o) || hvSep cl hv p o))
noncomputable def regionOk (ops : List Oper) : Bool := regionOkC [] [] ops

def okB (i : Nat) (v : V) : Prop :=
  match v with
  | .box j _ => j = i
  | .bot => True
  | .tup [] => True
  | .lit _ => True
  | .sl _ => True
  | .cap _ => True
  | .fp _ => True
  | _ => False
noncomputable def goodL (cl : List (Nat × Nat)) (env : Nat → V) : Prop := List.rec (motive := fun _ => Prop) True (fun q _ ih => okB q.2 (env q.1) ∧ ih) cl

/-! ### code -/
abbrev CodeK := St → (Exit → St → Prop) → Prop

noncomputable def ofL {α : Type} (d : α) (l : List (Nat × α)) : Nat → α :=
  List.rec (motive := fun _ => Nat → α) (fun _ => d) (fun p _ ih s => cond (Nat.beq s p.1) p.2 (ih s)) l
noncomputable def ofO {α : Type} (l : List (Nat × α)) : Nat → Option α :=
  List.rec (motive := fun _ => Nat → Option α) (fun _ => none) (fun p _ ih s => cond (Nat.beq s p.1) (some p.2) (ih s)) l
noncomputable def mkSt (e : List (Nat × V)) (b : List (Nat × List V)) (r : List (Nat × AE)) : St := ⟨ofL .bot e, ofO b, ofO r⟩

/-- an assertion over states, with parameters -/
structure Ann where
  A : Type
  st : A → St
  inv : A → Prop
  m : A → Nat

structure SeqVC (T : Tab) (x y : CodeK) (σ : St) (Q : Exit → St → Prop) : Prop where
  out : (x σ fun e σ' => match e with
    | .normal => y σ' Q
    | e => Q e σ') ∨
  ∃ C : Ann, (x σ fun e σ' => match e with
    | .normal => ∃ p, Le T σ' (C.st p) ∧ C.inv p
    | e => Q e σ') ∧ ∀ p, C.inv p → y (C.st p) Q

structure LoopVC (T : Tab) (x : CodeK) (σ : St) (Q : Exit → St → Prop) : Prop where
  out : ∃ L : Ann, (∃ p, Le T σ (L.st p) ∧ L.inv p) ∧ ∀ p, L.inv p → x (L.st p) fun e σ' => match e with
    | .normal => ∃ p', Le T σ' (L.st p') ∧ L.inv p' ∧ L.m p' < L.m p
    | e => Q e σ'

structure drawVC (env : Nat → V) (ops : List Oper) (K : List (Nat × List Nat) → Prop) : Prop where
  out : ∃ cl hv, goodL cl env ∧ regionOkC cl hv ops = true ∧ K hv

noncomputable def codeVC (T : Tab) (P : Program) (n : Nat) (c : Code) : CodeK :=
  Code.rec (motive := fun _ => CodeK)
    (fun σ Q => Q .normal σ)
    (fun _ ops draw σ Q => match σ with | ⟨env, bx, ar⟩ => match draw with
      | true => drawVC env ops.toList (fun hv => opsVC T P (.drawn hv) n ops.toList ops.toList env bx ar (Q .normal))
      | false => opsVC T P .free n ops.toList ops.toList env bx ar (Q .normal))
    (fun _ _ iha ihb => SeqVC T iha ihb)
    (fun c _ _ iht ihe σ Q => match σ.ev c with
      | .lit (.bool b) => branch b (iht σ Q) (ihe σ Q)
      | _ => False)
    (fun id _ ih σ Q => ih σ fun e σ' => match e with
      | .exit i => cond (Nat.beq i id) (Q .normal σ') (Q (.exit i) σ')
      | e => Q e σ')
    (fun _ ih => LoopVC T ih)
    (fun _ _ _ _ _ _ _ _ => False)
    (fun id σ Q => Q (.exit id) σ)
    (fun _ _ _ _ => False)
    (fun _ _ _ => False)
    (fun _ _ _ => False)
    (fun σ Q => Q .ret σ)
    (fun _ _ _ => False) c

/-- the frame at the entry -/
noncomputable def initEnv (ys : List V) : Nat → Nat → V :=
  List.rec (motive := fun _ => Nat → Nat → V) (fun _ _ => .tup []) (fun y _ ih j s => cond (Nat.beq s j) (cond (linear y) (.arr j 0) y) (ih (j + 1) s)) ys
noncomputable def initAr (ys : List V) : Nat → Nat → Option AE :=
  List.rec (motive := fun _ => Nat → Nat → Option AE) (fun _ _ => none) (fun y _ ih j s => cond (Nat.beq s j) (match y with
    | .own e l => some ⟨0, .own, e, l⟩
    | .ap e l => some ⟨0, .ap, e, l⟩
    | _ => none) (ih (j + 1) s)) ys
noncomputable def initSt (ys : List V) : St := ⟨initEnv ys 0, fun _ => none, initAr ys 0⟩

/-- the results, read at the end -/
noncomputable def resVC (T : Tab) (σ : St) (rs : List ResultVar) : (List V → Prop) → Prop :=
  List.rec (motive := fun _ => (List V → Prop) → Prop) (fun K => K [])
    (fun x _ ih K => match x with
      | .tmp t => force (σ.env t) fun v => ih fun vs => K (v :: vs)
      | .cell a t => cond (Nat.blt t (T.n t)) (loadVC (T.row t) σ (σ.env a) fun v _ => ih fun vs => K (v :: vs)) False) rs

structure retVC (T : Tab) (σ : St) (rs : List ResultVar) (r : V) : Prop where
  out : resVC T σ rs fun xs => match xs with
    | [x] => giveL T σ.ar [r] [x] ∧ keysOk [x] [r] = true ∧ (∀ rs, r ≠ .tup rs)
    | xs => ∃ ys, r = .tup ys ∧ giveL T σ.ar ys xs ∧ keysOk xs ys = true

/-- the results, and the slice that was changed in place -/
structure retIO (T : Tab) (σ : St) (rs : List ResultVar) (r : V) (j : Nat) (e : TypeId) (l : List V) : Prop where
  out : resVC T σ rs fun xs => match xs with
    | [x] => giveL T σ.ar [r, .own e l] [x, .arr j 0] ∧ keysOk [x, .arr j 0] [r, .own e l] = true ∧ flatV r = true ∧ (∀ rs, r ≠ .tup rs)
    | xs => ∃ ys, r = .tup ys ∧ giveL T σ.ar (appR ys [.own e l]) (appR xs [.arr j 0]) ∧ keysOk (appR xs [.arr j 0]) (appR ys [.own e l]) = true

noncomputable def fnIO (T : Tab) (P : Program) (fn : Func) (ys : List V) (r : V) (j : Nat) (e : TypeId) (l : List V) : Prop :=
  match fn.body with
  | some c => codeVC T P fn.ntmps c (initSt ys) fun ex σ => match ex with
    | .normal => retIO T σ fn.results.toList r j e l
    | .ret => retIO T σ fn.results.toList r j e l
    | _ => False
  | none => False

noncomputable def fnVC (T : Tab) (P : Program) (fn : Func) (ys : List V) (r : V) : Prop :=
  match fn.body with
  | some c => codeVC T P fn.ntmps c (initSt ys) fun e σ => match e with
    | .normal => retVC T σ fn.results.toList r
    | .ret => retVC T σ fn.results.toList r
    | _ => False
  | none => False

end Go.Ab
namespace Go.Ab

def kdOf : Option TypeDesc → Kd
  | some .bool => .bool
  | some (.int k) => .int k
  | some .string => .str
  | some (.slice _) => .slice
  | some (.struct _) => .struct
  | some (.array _ _) => .array
  | _ => .other

def zeroOf (P : Program) (t : TypeId) : Option Value := (P.info? t).bind (·.zero)
def sizeB (P : Program) (t : TypeId) : Nat := ((P.info? t).map (·.size)).getD 0

def aggB : Option TypeDesc → Bool
  | some (.struct _) => true
  | some (.array _ _) => true
  | _ => false

def mkRow (P : Program) (t : TypeId) : Row :=
  { size := sizeB P t
    bytes := ((P.info? t).map (·.bytes)).getD 0
    agg := aggB (P.underlying t)
    kd := kdOf (P.underlying t)
    elem := match P.underlying t with | some (.slice e) => e | some (.array _ e) => e | _ => 0
    alen := match P.underlying t with | some (.array n _) => n | _ => 0
    flds := match P.underlying t with | some (.struct fs) => fs.toList.map (fun f => (f.offset, sizeB P f.type, kdOf (P.underlying f.type), f.type)) | _ => []
    zero := ((zeroOf P t).map (·.cells.toList)).getD []
    eq := !(P.stoodInHeld t) && !(P.eqGuardType P.depth t) && (match P.underlying t with | some (.struct fs) => fs.toList.all (fun f => f.name != "_") | _ => false) }

def isAggV : Value → Bool
  | .agg _ => true
  | _ => false

/-- the row can be leant on -/
def rowB (P : Program) (t : TypeId) : Bool :=
  (P.info? t).isSome && (P.underlying t).isSome && (match zeroOf P t with
    | some z => z.cells.toList.all Value.oneCell' && z.cells.size == sizeB P t && isAggV z == aggB (P.underlying t)
    | none => false) &&
  (match P.underlying t with | some (.struct fs) => fs.toList.all (fun f => (P.info? f.type).isSome) | _ => true)

structure RowOk (P : Program) (t : TypeId) (r : Row) : Prop where
  eqs : r.eq = true → P.stoodInHeld t = false ∧ P.eqGuardType P.depth t = false ∧ ∀ fs, P.underlying t = some (.struct fs) → ∀ f ∈ fs, f.name ≠ "_"
  info : ∃ i, P.info? t = some i ∧ i.size = r.size ∧ i.bytes = r.bytes ∧ ∃ z, i.zero = some z ∧ z.cells.toList = r.zero ∧ (∀ c ∈ r.zero, c.oneCell' = true) ∧ r.zero.length = r.size ∧ (r.agg = true → ∃ cs, z = .agg cs) ∧ (r.agg = false → r.zero = [z])
  und : ∃ d, P.underlying t = some d ∧ r.kd = kdOf (some d) ∧ r.agg = aggB (some d) ∧ (∀ e, d = .slice e → r.elem = e) ∧ (∀ n e, d = .array n e → r.elem = e ∧ r.alen = n) ∧
    (∀ fs, d = .struct fs → r.flds = fs.toList.map (fun f => (f.offset, sizeB P f.type, kdOf (P.underlying f.type), f.type)) ∧ ∀ f ∈ fs, ∃ i, P.info? f.type = some i ∧ i.size = sizeB P f.type)

theorem mkRow_ok {P : Program} {t : TypeId} (h : rowB P t = true) : RowOk P t (mkRow P t) := by
  simp only [rowB, Bool.and_eq_true] at h
  obtain ⟨⟨⟨h1, h2⟩, h3⟩, h4⟩ := h
  obtain ⟨i, hi⟩ := Option.isSome_iff_exists.1 h1
  obtain ⟨d, hd⟩ := Option.isSome_iff_exists.1 h2
  cases hz : zeroOf P t with
  | none => rw [hz] at h3; simp at h3
  | some z =>
    rw [hz] at h3
    simp only [Bool.and_eq_true, List.all_eq_true, beq_iff_eq] at h3
    obtain ⟨⟨z1, z2⟩, z3⟩ := h3
    have hzi : i.zero = some z := by simpa [zeroOf, hi] using hz
    constructor
    · intro he
      simp only [mkRow, Bool.and_eq_true, Bool.not_eq_true'] at he
      refine ⟨he.1.1, he.1.2, fun fs hfs f hf => ?_⟩
      have h3 := he.2
      rw [hfs] at h3
      simp only [List.all_eq_true, bne_iff_ne] at h3
      exact h3 f (by simpa using hf)
    · refine ⟨i, hi, by simp [mkRow, sizeB, hi], by simp [mkRow, hi], z, hzi, by simp [mkRow, hz], ?_, ?_, ?_, ?_⟩
      · simpa [mkRow, hz] using z1
      · simpa [mkRow, hz] using z2
      · intro ha
        simp only [mkRow] at ha
        rw [ha] at z3
        cases z <;> simp [isAggV] at z3
        exact ⟨_, rfl⟩
      · intro ha
        simp only [mkRow] at ha
        rw [ha] at z3
        simp only [mkRow, hz, Option.map_some, Option.getD_some]
        cases z <;> simp_all [isAggV, Value.cells]
    · refine ⟨d, hd, by simp [mkRow, hd], by simp [mkRow, hd], ?_, ?_, ?_⟩
      · rintro e rfl; simp [mkRow, hd]
      · rintro n e rfl; simp [mkRow, hd]
      · rintro fs rfl
        rw [hd] at h4
        simp only [List.all_eq_true] at h4
        refine ⟨by simp [mkRow, hd], fun f hf => ?_⟩
        obtain ⟨fi, hfi⟩ := Option.isSome_iff_exists.1 (h4 f (by simpa using hf))
        exact ⟨fi, hfi, by simp [sizeB, hfi]⟩

def TabOk (T : Tab) (P : Program) : Prop := ∀ t, t < T.n t → RowOk P t (T.row t)

noncomputable def memT (k : Nat) (l : List Nat) : Bool := List.rec (motive := fun _ => Bool) false (fun x _ ih => cond (Nat.beq k x) true ih) l
/-- the table of a program: its types but for some -/
noncomputable def tabOf (P : Program) (n : Nat) (bad : List Nat) : Tab := ⟨fun t => cond (memT t bad) 0 n, mkRow P, fun _ _ => True, fun _ h => h, fun _ => false⟩
/-- the same, with package-level variables -/
noncomputable def tabOfL (P : Program) (n : Nat) (bad : List Nat) (lay : World → (Nat → Prop) → Prop) (hm : ∀ {w w' : World} {F F' : Nat → Prop}, (∀ b, F b → F' b ∧ w'.heap[b]? = w.heap[b]?) → lay w F → lay w' F') : Tab := ⟨fun t => cond (memT t bad) 0 n, mkRow P, lay, hm, fun _ => false⟩
/-- the same, with functions whose values keep the addresses of what they capture -/
noncomputable def tabOfR (P : Program) (n : Nat) (bad : List Nat) (lay : World → (Nat → Prop) → Prop) (hm : ∀ {w w' : World} {F F' : Nat → Prop}, (∀ b, F b → F' b ∧ w'.heap[b]? = w.heap[b]?) → lay w F → lay w' F') (rf : List Nat) : Tab := ⟨fun t => cond (memT t bad) 0 n, mkRow P, lay, hm, fun g => memT g rf⟩

theorem nth_eq {α : Type} (l : List α) : ∀ n, nth l n = l[n]? := by
  induction l with
  | nil => intro n; rfl
  | cons x r ih =>
    intro n
    cases n with
    | zero => rfl
    | succ n => exact (ih n).trans (by simp)

theorem tabOf_ok {P : Program} {n : Nat} {bad : List Nat} (h : (List.range n).all (fun t => memT t bad || rowB P t) = true) : TabOk (tabOf P n bad) P := by
  intro t ht
  have ht' : t < cond (memT t bad) 0 n := ht
  cases hb : memT t bad with
  | true => rw [hb] at ht'; exact absurd ht' (Nat.not_lt_zero t)
  | false =>
    rw [hb] at ht'
    have := List.all_eq_true.1 h t (List.mem_range.2 ht')
    rw [hb, Bool.false_or] at this
    exact mkRow_ok this
theorem tabOfL_ok {P : Program} {n : Nat} {bad : List Nat} {lay : World → (Nat → Prop) → Prop} {hm : ∀ {w w' : World} {F F' : Nat → Prop}, (∀ b, F b → F' b ∧ w'.heap[b]? = w.heap[b]?) → lay w F → lay w' F'} (h : (List.range n).all (fun t => memT t bad || rowB P t) = true) : TabOk (tabOfL P n bad lay hm) P := tabOf_ok h
theorem tabOfR_ok {P : Program} {n : Nat} {bad : List Nat} {lay : World → (Nat → Prop) → Prop} {hm : ∀ {w w' : World} {F F' : Nat → Prop}, (∀ b, F b → F' b ∧ w'.heap[b]? = w.heap[b]?) → lay w F → lay w' F'} {rf : List Nat} (h : (List.range n).all (fun t => memT t bad || rowB P t) = true) : TabOk (tabOfR P n bad lay hm rf) P := tabOf_ok h

end Go.Ab
namespace Go.Ab

section lists
variable {α β : Type}
theorem takeR_eq (l : List α) : ∀ n, takeR l n = l.take n := by
  induction l with
  | nil => intro n; simp [takeR]
  | cons x r ih =>
    intro n
    cases n with
    | zero => rfl
    | succ n => exact congrArg (x :: ·) (ih n)
theorem dropR_eq (l : List α) : ∀ n, dropR l n = l.drop n := by
  induction l with
  | nil => intro n; simp [dropR]
  | cons x r ih =>
    intro n
    cases n with
    | zero => rfl
    | succ n => exact ih n
theorem appR_eq (l m : List α) : appR l m = l ++ m := by
  induction l with
  | nil => rfl
  | cons x r ih => exact congrArg (x :: ·) ih
theorem lenR_eq (l : List α) : lenR l = l.length := by
  induction l with
  | nil => rfl
  | cons x r ih => exact congrArg Nat.succ ih
theorem mapR_eq (f : α → β) (l : List α) : mapR f l = l.map f := by
  induction l with
  | nil => rfl
  | cons x r ih => exact congrArg (f x :: ·) ih
theorem allR_eq (f : α → Bool) (l : List α) : allR f l = l.all f := by
  induction l with
  | nil => rfl
  | cons x r ih =>
    show cond (f x) (allR f r) false = _
    rw [ih]
    cases h : f x <;> simp [h]
theorem allR_iff {f : α → Bool} {l : List α} : allR f l = true ↔ ∀ x ∈ l, f x = true := by rw [allR_eq]; exact List.all_eq_true
end lists

theorem splice_eq (cs : List V) (off : Nat) (xs : List V) : splice cs off xs = cs.take off ++ (xs ++ cs.drop (off + xs.length)) := by
  simp [splice, takeR_eq, dropR_eq, appR_eq, lenR_eq]

theorem force_eq (v : V) (K : V → Prop) : force v K = K v := by cases v <;> rfl
theorem forceL_eq (l : List V) : ∀ K : List V → Prop, forceL l K = K l := by
  induction l with
  | nil => intro K; rfl
  | cons x r ih =>
    intro K
    show force x (fun x' => forceL r fun r' => K (x' :: r')) = _
    rw [force_eq, ih]

theorem cond_F {b : Bool} {p : Prop} (h : cond b p False) : b = true ∧ p := by cases b <;> simp_all
theorem blt {a b : Nat} (h : Nat.blt a b = true) : a < b := by simpa [Nat.blt_eq] using h
theorem need_p {p K : Prop} (h : need p K) : p ∧ K := by replace h := h.out; exact h
theorem arith_p {k : IntKind} {n : Int} {K : Int → Prop} (h : arith k n K) : K (k.wrap n) := by replace h := h.out; exact h
theorem bytes_p {xs : List V} {K : List Int → Prop} (h : bytesVC xs K) : ∃ ns : List Int, xs = ns.map (fun n => V.lit (.int .u8 n)) ∧ K ns := by replace h := h.out; exact h
theorem idx_p {l : List V} {i : Nat} {K : V → Prop} (h : idx l i K) : ∃ x, l[i]? = some x ∧ K x := by replace h := h.out; exact h

theorem still_pure {x : V} {p : Nat → Prop} {q : Nat → Nat → Prop} (h : x.still = true) (hok : x.ok p q) : x.pure := by
  cases x with
  | lit u => simp only [V.pure, V.ok]
  | fp l => simp only [V.pure, V.ok] at hok ⊢; exact hok
  | _ => simp [V.still] at h
theorem stillL_pure {l : List V} {p : Nat → Prop} {q : Nat → Nat → Prop} (h : allR V.still l = true) (hok : V.okL p q l) : pureL l :=
  okL_iff.2 fun x hx => still_pure (allR_iff.1 h x hx) (okL_iff.1 hok x hx)
theorem cells_one {v : Value} (h : v.oneCell' = true) : v.cells = #[v] := by cases v <;> simp_all [Value.oneCell', Value.cells]

theorem add_block (a : Addr) (n : Nat) : (a.add n).block = a.block := by unfold Addr.add; split <;> rfl
theorem add_add' (a : Addr) (i j : Nat) : (a.add i).add j = a.add (i + j) := by
  unfold Addr.add
  by_cases hi : i = 0 <;> by_cases hj : j = 0 <;> simp [hi, hj, Nat.add_assoc]
theorem add_lit' (b o n : Nat) : (⟨b, o, none⟩ : Addr).add n = ⟨b, o + n, none⟩ := by unfold Addr.add; split <;> simp_all
theorem add_zero' (a : Addr) : a.add 0 = a := by simp [Addr.add]

theorem Rv.cells {w : World} {G : Gh} {v : Value} {x : V} (h : Rv w G v x) (h1 : ∀ y ∈ x.cells, y.one = true) : RvL w G v.cells.toList x.cells := by
  have single : x.cells = [x] → v.oneCell' = true → RvL w G v.cells.toList x.cells := by
    intro hx hv
    rw [hx, cells_one hv]
    refine ⟨rfl, by simpa using hv, fun i u y hu hy => ?_⟩
    cases i with
    | zero => simp at hu hy; subst hu; subst hy; exact h
    | succ i => simp at hu
  cases h with
  | bot v => simp [V.cells, V.one] at h1
  | lit u hu => exact single rfl hu
  | agg cs xs hl ho hh => exact ⟨by simpa [Value.cells, V.cells] using hl, by simpa [Value.cells] using ho, fun i c x hc hx => hh i c x (by simpa [Value.cells] using hc) hx⟩
  | tup cs xs hl hh => simp [V.cells, V.one] at h1
  | slN => exact single rfl rfl
  | slS => exact single rfl rfl
  | capN => exact single rfl rfl
  | capS => exact single rfl rfl
  | box i off => exact single rfl rfl
  | arr k g hh => exact single rfl hh
  | fp => exact single rfl rfl
  | ae => exact single rfl rfl
  | fn => exact single rfl rfl

theorem Rv.lit_eq {w : World} {G : Gh} {v u : Value} (h : Rv w G v (.lit u)) : v = u := by cases h; rfl
theorem Rv.lit_one {w : World} {G : Gh} {v u : Value} (h : Rv w G v (.lit u)) : u.oneCell' = true := by cases h; assumption
theorem Rv.agg_inv {w : World} {G : Gh} {v : Value} {xs : List V} (h : Rv w G v (.agg xs)) : ∃ cs : Array Value, v = .agg cs ∧ cs.size = xs.length ∧ (∀ c ∈ cs, c.oneCell' = true) ∧ ∀ (i : Nat) c x, cs[i]? = some c → xs[i]? = some x → Rv w G c x := by
  cases h with
  | agg cs xs hl ho hh => exact ⟨cs, rfl, hl, ho, hh⟩
theorem Rv.tup_inv {w : World} {G : Gh} {v : Value} {xs : List V} (h : Rv w G v (.tup xs)) : ∃ cs : Array Value, v = .tuple cs ∧ cs.size = xs.length ∧ ∀ (i : Nat) c x, cs[i]? = some c → xs[i]? = some x → Rv w G c x := by
  cases h with
  | tup cs xs hl hh => exact ⟨cs, rfl, hl, hh⟩
theorem Rv.box_eq {w : World} {G : Gh} {v : Value} {i off : Nat} (h : Rv w G v (.box i off)) : v = .pointer (some ⟨G.β i, off, none⟩) := by cases h; rfl
theorem Rv.arr_eq {w : World} {G : Gh} {v : Value} {k g : Nat} (h : Rv w G v (.arr k g)) : v = G.av k g := by cases h; rfl
theorem Rv.fp_inv {w : World} {G : Gh} {v : Value} {cs : List V} (h : Rv w G v (.fp cs)) : ∃ (a : Addr) (cc : Nat → Value), v = .pointer (some a) ∧ (cs ≠ [] → G.O a.block = .fz) ∧ At w a cc cs ∧ ∀ (j : Nat) y, cs[j]? = some y → Rv w G (cc j) y := by
  cases h with
  | fp a cs cc hf hc hh => exact ⟨a, cc, rfl, hf, hc, hh⟩
theorem Rv.fn_inv {w : World} {G : Gh} {v : Value} {g : FuncId} {caps : List V} (h : Rv w G v (.fn g caps)) : ∃ lb : Array Value, v = .func (.func g) #[] lb ∧ lb.size = caps.length ∧ ∀ (i : Nat) c x, lb[i]? = some c → caps[i]? = some x → Rv w G c x := by
  cases h with
  | fn g lb caps hl hh => exact ⟨lb, rfl, hl, hh⟩
theorem Rv.ae_inv {w : World} {G : Gh} {v : Value} {k g sz i off : Nat} (h : Rv w G v (.ae k g sz i off)) : ∃ (a : Addr) (n c : Nat), v = .pointer (some (a.add (i * sz + off))) ∧ G.av k g = .slice (some a) n c := by
  cases h with
  | ae k g sz i off a n c hh => exact ⟨a, n, c, rfl, hh⟩
theorem Rv.sl_inv {w : World} {G : Gh} {v : Value} {l : List V} (h : Rv w G v (.sl l)) : (v = .slice none 0 0 ∧ l = []) ∨ ∃ (a : Addr) (c sz : Nat) (cc : Nat → Value), v = .slice (some a) l.length c ∧ l.length ≤ c ∧ c ≤ maxLen ∧ (0 < l.length → G.O a.block = .fz) ∧ (∀ x ∈ l, x.cells.length = sz) ∧ At w a cc (l.flatMap V.cells) ∧ ∀ (j : Nat) y, (l.flatMap V.cells)[j]? = some y → Rv w G (cc j) y := by
  cases h with
  | slN => exact .inl ⟨rfl, rfl⟩
  | slS a c l sz cc hc hm hf hz hcell hh => exact .inr ⟨a, c, sz, cc, rfl, hc, hm, hf, hz, hcell, hh⟩
theorem Rv.cap_inv {w : World} {G : Gh} {v : Value} {l : List V} (h : Rv w G v (.cap l)) : (v = .slice none 0 0 ∧ l = []) ∨ ∃ (a : Addr) (sz : Nat) (cc : Nat → Value), v = .slice (some a) l.length l.length ∧ l.length ≤ maxLen ∧ (0 < l.length → G.O a.block = .fz) ∧ (∀ x ∈ l, x.cells.length = sz) ∧ At w a cc (l.flatMap V.cells) ∧ ∀ (j : Nat) y, (l.flatMap V.cells)[j]? = some y → Rv w G (cc j) y := by
  cases h with
  | capN => exact .inl ⟨rfl, rfl⟩
  | capS a l sz cc hm hf hz hcell hh => exact .inr ⟨a, sz, cc, rfl, hm, hf, hz, hcell, hh⟩
/-- a slice with cap = len is a slice -/
theorem Rv.cap_sl {w : World} {G : Gh} {v : Value} {l : List V} (h : Rv w G v (.cap l)) : Rv w G v (.sl l) := by
  cases h with
  | capN => exact .slN
  | capS a l sz cc hm hf hz hcell hh => exact .slS a l.length l sz cc (Nat.le_refl _) hm hf hz hcell hh

theorem ok_cells {p : Nat → Prop} {q : Nat → Nat → Prop} {x : V} (h : x.ok p q) : V.okL p q x.cells := by
  cases x <;> simp_all [V.cells, V.ok, V.okL]

theorem Inv.ev {T : Tab} {Φ : Fr} {σ : St} {a : Act} {w : World} {G : Gh} (inv : Inv T Φ σ a w G) (x : Operand) : Rv w G (a.eval x) (σ.ev x) ∧ (σ.ev x).ok σ.hasB σ.hasA := by
  cases x with
  | tmp t => exact ⟨inv.env t, inv.wfE t⟩
  | const v =>
    simp only [Act.eval, St.ev]
    unfold ofVal
    split
    · rename_i cs
      by_cases hc : allR Value.oneCell' cs.toList = true
      · rw [hc]
        have hall := allR_iff.1 hc
        refine ⟨Rv.agg cs _ (by simp [mapR_eq]) (by simpa using hall) fun i c x hc hx => ?_, ?_⟩
        · rw [mapR_eq, List.getElem?_map] at hx
          have : cs.toList[i]? = some c := by simpa using hc
          rw [this] at hx
          simp at hx
          subst hx
          exact .lit c (hall c (List.mem_of_getElem? this))
        · simp only [cond_true, V.ok, okL_iff, mapR_eq, List.mem_map]
          rintro x ⟨c, _, rfl⟩
          simp only [V.ok]
      · rw [Bool.not_eq_true] at hc
        rw [hc]
        exact ⟨.bot _, by simp only [cond_false, V.ok]⟩
    · exact ⟨.bot _, by simp only [V.ok]⟩
    · rename_i h1 h2
      refine ⟨.lit v ?_, by simp only [V.ok]⟩
      cases v <;> simp_all [Value.oneCell']
  | global g => exact ⟨.bot _, by simp only [St.ev, V.ok]⟩
  | func f => exact ⟨.fn f #[] [] rfl (fun i c x hc => by simp at hc), by simp only [St.ev, V.ok, V.okL]⟩

/-- what an operation comes to -/
def Out (T : Tab) (Φ : Fr) (σ : St) (a : Act) (K : VK) (res : Result Next) : Prop :=
  ∃ v' w' v ms G', (res = .ok (.value v') w' ∨ (res = .ok .skip w' ∧ v' = undef)) ∧ K v ms ∧ Inv T Φ (σ.apps ms) a w' G' ∧ Rv w' G' v' v ∧ v.ok (σ.apps ms).hasB (σ.apps ms).hasA

theorem Out.plain {T : Tab} {Φ : Fr} {σ : St} {a : Act} {w : World} {G : Gh} {K : VK} {res : Result Next} {v' : Value} {v : V} (inv : Inv T Φ σ a w G) (hr : res = .ok (.value v') w) (hk : K v []) (hv : Rv w G v' v) (ho : v.ok σ.hasB σ.hasA) : Out T Φ σ a K res :=
  ⟨v', w, v, [], G, .inl hr, hk, inv, hv, ho⟩

end Go.Ab
namespace Go.Ab
section
variable {T : Tab} {P : Program} {Φ : Fr} {σ : St} {a : Act} {w : World} {G : Gh} {K : VK} {o : Oper} {d : Nat}

theorem B_ok (b : Bool) (w : World) (G : Gh) : Rv w G (.bool b) (B b) := .lit _ rfl
theorem I_ok (k : IntKind) (n : Int) (w : World) (G : Gh) : Rv w G (.int k n) (litInt k n) := .lit _ rfl
theorem lit_triv {u : Value} {p : Nat → Prop} {q : Nat → Nat → Prop} : (V.lit u).ok p q := by simp only [V.ok]

theorem move_sound (inv : Inv T Φ σ a w G) (x : Operand) (ho : o.op = .move x) (h : force (σ.ev x) fun v => K v []) : Out T Φ σ a K ((execOp a.eval o).run P w) := by
  rw [force_eq] at h
  obtain ⟨h1, h2⟩ := inv.ev x
  exact .plain inv (by simp [execOp, ho]) h h1 h2
theorem assign_sound (inv : Inv T Φ σ a w G) (x : Operand) (ho : o.op = .assign x) (h : force (σ.ev x) fun v => K v []) : Out T Φ σ a K ((execOp a.eval o).run P w) := by
  rw [force_eq] at h
  obtain ⟨h1, h2⟩ := inv.ev x
  exact .plain inv (by simp [execOp, ho]) h h1 h2

theorem pick_sound (inv : Inv T Φ σ a w G) (c x y : Operand) (ho : o.op = .pick c x y) (h : pickVC (σ.ev c) (σ.ev x) (σ.ev y) K) : Out T Φ σ a K ((execOp a.eval o).run P w) := by
  obtain ⟨c1, _⟩ := inv.ev c
  obtain ⟨x1, x2⟩ := inv.ev x
  obtain ⟨y1, y2⟩ := inv.ev y
  unfold pickVC at h
  split at h
  · rename_i t hc
    rw [hc] at c1
    have hcv := c1.lit_eq
    cases t
    · simp only [branch, force_eq] at h
      exact .plain inv (by simp [execOp, ho, hcv, asBool]) h y1 y2
    · simp only [branch, force_eq] at h
      exact .plain inv (by simp [execOp, ho, hcv, asBool]) h x1 x2
  · exact h.elim

theorem un_sound (inv : Inv T Φ σ a w G) (u : UnOp) (t : TypeId) (x : Operand) (ho : o.op = .unOp u t x) (h : unVC u (σ.ev x) K) : Out T Φ σ a K ((execOp a.eval o).run P w) := by
  obtain ⟨x1, _⟩ := inv.ev x
  unfold unVC at h
  split at h
  · rename_i b hx
    rw [hx] at x1
    have hv := x1.lit_eq
    exact .plain inv (by simp [execOp, ho, hv, Op.unary]) h (B_ok _ _ _) lit_triv
  · rename_i k n hx
    rw [hx] at x1
    have hv := x1.lit_eq
    exact .plain inv (by simp [execOp, ho, hv, Op.unary, Op.intArith]) (arith_p h) (I_ok _ _ _ _) lit_triv
  · exact h.elim

theorem run_bin (x y : Operand) (op : BinOp) (t t' : TypeId) (ho : o.op = .binOp op t x y t') (u v r : Value) (hx : a.eval x = u) (hy : a.eval y = v)
    (hg : (eqGuard op t x y u v).run P w = .ok () w) (hr : (binOp op t u v).run P w = .ok r w) : (execOp a.eval o).run P w = .ok (.value r) w := by
  simp only [execOp, ho, hx, hy, Sem.run_bind, hg, hr, Result.andThen_ok, Sem.run_pure]

theorem guard_plain (op : BinOp) (t : TypeId) (x y : Operand) (u v : Value) (h : ∀ cs, u ≠ .agg cs) (h' : u ≠ .nilIface) : (eqGuard op t x y u v).run P w = .ok () w := by
  cases u with
  | agg cs => exact absurd rfl (h cs)
  | nilIface => exact absurd rfl h'
  | _ => cases op <;> simp [eqGuard]

theorem int_sound (inv : Inv T Φ σ a w G) (x y : Operand) (op : BinOp) (t t' : TypeId) (ho : o.op = .binOp op t x y t') (k : IntKind) (m n : Int) (hx : a.eval x = .int k m) (hy : a.eval y = .int k n)
    (h : intVC op k m n K) : Out T Φ σ a K ((execOp a.eval o).run P w) := by
  have hg : (eqGuard op t x y (.int k m) (.int k n)).run P w = .ok () w := guard_plain _ _ _ _ _ _ (by simp) (by simp)
  have fin : ∀ r : Value, r.oneCell' = true → (binOp op t (.int k m) (.int k n)).run P w = .ok r w → K (.lit r) [] → Out T Φ σ a K ((execOp a.eval o).run P w) := fun r h1 hr hk =>
    .plain inv (run_bin x y op t t' ho _ _ r hx hy hg hr) hk (.lit r h1) lit_triv
  unfold intVC at h
  split at h
  · exact fin _ rfl (by simp [binOp, Op.intArith]) (arith_p h)
  · exact fin _ rfl (by simp [binOp, Op.intArith]) (arith_p h)
  · exact fin _ rfl (by simp [binOp, Op.intArith]) (arith_p h)
  · obtain ⟨h0, h⟩ := need_p h
    exact fin _ rfl (by simp [binOp, Op.intDiv, h0]) (arith_p h)
  · obtain ⟨h0, h⟩ := need_p h
    exact fin _ rfl (by simp [binOp, Op.intDiv, h0]) h
  · obtain ⟨h0, h⟩ := need_p h
    exact fin _ rfl (by simp [binOp, Op.shift, Int.not_lt.2 h0, shrI]) h
  · exact fin _ rfl (by simp [binOp, Op.intCmp, ltB]) h
  · exact fin _ rfl (by simp [binOp, Op.intCmp, ltB]) h
  · exact fin _ rfl (by simp [binOp, Op.intCmp, leB]) h
  · exact fin _ rfl (by simp [binOp, Op.intCmp, leB]) h
  · exact fin (.bool (eqB m n)) rfl (by simp [binOp, Op.intCmp, eqB]; exact Bool.eq_iff_iff.2 (by simp)) h
  · exact fin (.bool (!eqB m n)) rfl (by simp [binOp, Op.intCmp, eqB, bne]; exact Bool.eq_iff_iff.2 (by simp)) h
  · exact h.elim

theorem str_sound (inv : Inv T Φ σ a w G) (x y : Operand) (op : BinOp) (t t' : TypeId) (ho : o.op = .binOp op t x y t') (m n : ByteArray) (hx : a.eval x = .string m) (hy : a.eval y = .string n)
    (h : strVC op m n K) : Out T Φ σ a K ((execOp a.eval o).run P w) := by
  have hg : (eqGuard op t x y (.string m) (.string n)).run P w = .ok () w := guard_plain _ _ _ _ _ _ (by simp) (by simp)
  have fin : ∀ r : Value, r.oneCell' = true → (binOp op t (.string m) (.string n)).run P w = .ok r w → K (.lit r) [] → Out T Φ σ a K ((execOp a.eval o).run P w) := fun r h1 hr hk =>
    .plain inv (run_bin x y op t t' ho _ _ r hx hy hg hr) hk (.lit r h1) lit_triv
  unfold strVC at h
  split at h
  · obtain ⟨h0, h⟩ := need_p h
    refine fin _ rfl ?_ h
    have : ¬ (IntKind.i64.max < ((m.size + n.size : Nat) : Int)) := by simp [IntKind.max, IntKind.signed, IntKind.bits]; omega
    simp only [binOp, Op.stringOp]
    rw [if_neg (by simpa using this)]
    simp
  · exact fin _ rfl (by simp [binOp, Op.stringOp, eqS]) h
  · exact fin _ rfl (by simp [binOp, Op.stringOp, eqS]) h
  · exact fin _ rfl (by simp [binOp, Op.stringOp, ltS]) h
  · exact fin (.bool (!(ltS m n || eqS m n))) rfl (by simp [binOp, Op.stringOp, ltS, eqS]) h
  · exact fin _ rfl (by simp [binOp, Op.stringOp, ltS, eqS]) h
  · exact fin _ rfl (by simp [binOp, Op.stringOp, ltS]) h
  · exact h.elim

theorem und_run {t : TypeId} {dd : TypeDesc} (h : P.underlying t = some dd) (w : World) : (underlying t).run P w = .ok dd w := run_underlying h w
theorem info_run {t : TypeId} {i : TypeInfo} (h : P.info? t = some i) (w : World) : (typeInfo t).run P w = .ok i w := by simp [typeInfo, h]
theorem size_run {t : TypeId} {i : TypeInfo} (h : P.info? t = some i) (w : World) : (sizeOf t).run P w = .ok i.size w := by simp [sizeOf, typeInfo, h]

theorem kd_bool {t : TypeId} {r : Row} (h : RowOk P t r) (hk : r.kd = .bool) : P.underlying t = some .bool := by
  obtain ⟨dd, h1, h2, _⟩ := h.und
  rw [hk] at h2
  cases dd <;> simp [kdOf] at h2
  exact h1

theorem equal_bool {t : TypeId} (hu : P.underlying t = some .bool) (m n : Bool) : (Op.equal t (.bool m) (.bool n)).run P w = .ok (m == n) w := by
  have h : ∀ dp, (Op.equalIn (dp + 1) t (.bool m) (.bool n)).run P w = .ok (m == n) w := fun dp => by simp [Op.equalIn, und_run hu]
  exact h 9999

theorem bool_sound (hT : TabOk T P) (inv : Inv T Φ σ a w G) (x y : Operand) (op : BinOp) (t t' : TypeId) (ho : o.op = .binOp op t x y t') (m n : Bool) (hx : a.eval x = .bool m) (hy : a.eval y = .bool n)
    (ht : t < T.n t) (h : boolVC op (T.row t).kd m n K) : Out T Φ σ a K ((execOp a.eval o).run P w) := by
  have hg : (eqGuard op t x y (.bool m) (.bool n)).run P w = .ok () w := guard_plain _ _ _ _ _ _ (by simp) (by simp)
  have fin : ∀ r : Value, r.oneCell' = true → (binOp op t (.bool m) (.bool n)).run P w = .ok r w → K (.lit r) [] → Out T Φ σ a K ((execOp a.eval o).run P w) := fun r h1 hr hk =>
    .plain inv (run_bin x y op t t' ho _ _ r hx hy hg hr) hk (.lit r h1) lit_triv
  unfold boolVC at h
  split at h
  · rename_i hk
    have hu := kd_bool (hT t ht) hk
    exact fin _ rfl (by simp [binOp, equal_bool hu, eqBB]) h
  · rename_i hk
    have hu := kd_bool (hT t ht) hk
    exact fin (.bool (!eqBB m n)) rfl (by simp [binOp, equal_bool hu, eqBB]) h
  · exact h.elim

theorem extract_sound (inv : Inv T Φ σ a w G) (x : Operand) (i : Nat) (ho : o.op = .extract x i) (h : extractVC (σ.ev x) i K) : Out T Φ σ a K ((execOp a.eval o).run P w) := by
  obtain ⟨x1, x2⟩ := inv.ev x
  unfold extractVC at h
  split at h
  · rename_i cs hx
    rw [hx] at x1 x2
    split at h
    · rename_i v hv
      rw [force_eq] at h
      generalize hev : a.eval x = xv at x1
      cases x1 with
      | tup vs xs hl hh =>
        have hi : i < vs.size := by rw [hl]; exact (List.getElem?_eq_some_iff.1 hv).1
        refine .plain inv (v' := vs[i]) (by simp [execOp, ho, hev, Instr.extract, hi]) h (hh i _ _ (by simp [hi]) hv) ?_
        simp only [V.ok] at x2
        exact okL_iff.1 x2 v (List.mem_of_getElem? hv)
    · exact h.elim
  · exact h.elim

theorem maxI_if (a b : Int) : maxI a b = if b > a then b else a := by unfold maxI; by_cases h : b > a <;> simp [h]
theorem minI_if (a b : Int) : minI a b = if b < a then b else a := by unfold minI; by_cases h : b < a <;> simp [h]
theorem maxmin_sound (inv : Inv T Φ σ a w G) (b : Builtin) (f : Int → Int → Int) (hb : (b = .max ∧ f = maxI) ∨ (b = .min ∧ f = minI)) (as : List Operand) (ts : Array TypeId)
    (ho : o.op = .call ⟨.builtin b, ⟨as⟩, ts⟩) (h : maxminVC f (mapR σ.ev as) K) : Out T Φ σ a K ((execOp a.eval o).run P w) := by
  rw [mapR_eq] at h
  unfold maxminVC at h
  split at h
  · rename_i k m k' n hx
    rcases as with _ | ⟨x, _ | ⟨y, _ | ⟨z, as⟩⟩⟩ <;> try (simp at hx; done)
    · simp only [List.map_cons, List.map_nil, List.cons.injEq, and_true] at hx
      obtain ⟨x1, _⟩ := inv.ev x
      obtain ⟨y1, _⟩ := inv.ev y
      rw [hx.1] at x1
      rw [hx.2] at y1
      have hxv := x1.lit_eq
      have hyv := y1.lit_eq
      rcases hb with ⟨rfl, rfl⟩ | ⟨rfl, rfl⟩
      · exact .plain inv (by simp [execOp, ho, resolve, invoke, builtin, hxv, hyv, Builtin.max_, Builtin.max2, maxI_if]) h (I_ok _ _ _ _) lit_triv
      · exact .plain inv (by simp [execOp, ho, resolve, invoke, builtin, hxv, hyv, Builtin.min_, Builtin.min2, minI_if]) h (I_ok _ _ _ _) lit_triv
  · rename_i k m k' n k'' q hx
    rcases as with _ | ⟨x, _ | ⟨y, _ | ⟨z, _ | ⟨z', as⟩⟩⟩⟩ <;> try (simp at hx; done)
    · simp only [List.map_cons, List.map_nil, List.cons.injEq, and_true] at hx
      obtain ⟨x1, _⟩ := inv.ev x
      obtain ⟨y1, _⟩ := inv.ev y
      obtain ⟨z1, _⟩ := inv.ev z
      rw [hx.1] at x1
      rw [hx.2.1] at y1
      rw [hx.2.2] at z1
      have hxv := x1.lit_eq
      have hyv := y1.lit_eq
      have hzv := z1.lit_eq
      rcases hb with ⟨rfl, rfl⟩ | ⟨rfl, rfl⟩
      · exact .plain inv (by simp [execOp, ho, resolve, invoke, builtin, hxv, hyv, hzv, Builtin.max_, Builtin.max2, maxI_if]) h (I_ok _ _ _ _) lit_triv
      · exact .plain inv (by simp [execOp, ho, resolve, invoke, builtin, hxv, hyv, hzv, Builtin.min_, Builtin.min2, minI_if]) h (I_ok _ _ _ _) lit_triv
  · exact h.elim

end
end Go.Ab
namespace Go.Ab
section
variable {T : Tab} {P : Program} {Φ : Fr} {σ σ' : St} {a : Act} {w w' : World} {G G' : Gh}

theorem OwnOk.keep {k : Nat} {u : Value} {ty : TypeId} {l : List V} (hk : Keep w w' G G') (hp : pureL l) (hO : ∀ b, G.O b = .ar k → G'.O b = .ar k ∧ w'.heap[b]? = w.heap[b]?) (h : OwnOk T w G k u ty l) : OwnOk T w' G' k u ty l := by
  rcases h with h | ⟨b, cap, cur, h1, h2, h3, h4, h5, h6, h7, h8⟩
  · exact .inl h
  · refine .inr ⟨b, cap, cur, h1, (hO b h2).1, (hO b h2).2.trans h3, h4, h5, h6, h7, h8.keep hk (p := fun _ => False) (q := fun _ _ => False) ?_ (fun _ h => h.elim) (fun _ _ h => h.elim)⟩
    rw [okL_iff]
    intro y hy
    obtain ⟨j, hj⟩ := List.getElem?_of_mem hy
    exact ok_of_mem_flat hp hj

theorem Rv.pure_keep {v : Value} {x : V} (hk : Keep w w' G G') (hp : x.pure) (h : Rv w G v x) : Rv w' G' v x := h.keep hk hp (fun _ h => h.elim) (fun _ _ h => h.elim)

theorem ArrOk.keep {k : Nat} {en : AE} (hk : Keep w w' G G') (hp : pureL en.l) (hav : G'.av k en.gen = G.av k en.gen) (hO : ∀ b, G.O b = .ar k → G'.O b = .ar k ∧ w'.heap[b]? = w.heap[b]?) (h : ArrOk T w G k en) : ArrOk T w' G' k en := by
  unfold ArrOk at *
  rw [hav]
  have hs : (V.sl en.l).pure := by simp only [V.pure, V.ok]; exact hp
  have hc : (V.cap en.l).pure := by simp only [V.pure, V.ok]; exact hp
  split
  · trivial
  · rename_i hkd; rw [hkd] at h; exact h.pure_keep hk hs
  · rename_i hkd; rw [hkd] at h; exact ⟨h.1, h.2.keep hk hp hO⟩
  · rename_i hkd; rw [hkd] at h; exact ⟨h.1, h.2.imp (·.keep hk hp hO) (fun h => ⟨h.1.pure_keep hk hc, h.2⟩)⟩

theorem Inv.change (inv : Inv T Φ σ a w G) (henv : σ'.env = σ.env) (hk : Keep w w' G G')
    (hβ : ∀ i, σ.hasB i → G'.β i = G.β i) (hav : ∀ k g, σ.hasA k g → G'.av k g = G.av k g)
    (hB : ∀ i, σ.hasB i → σ'.hasB i) (hA : ∀ k g, σ.hasA k g → σ'.hasA k g)
    (hbox : ∀ i cs, σ'.bx i = some cs → (σ.bx i = some cs ∧ G'.O (G.β i) = .bx i ∧ w'.heap[G.β i]? = w.heap[G.β i]?) ∨
      ((∃ c t, w'.heap[G'.β i]? = some (.cells c t (0, 0)) ∧ RvL w' G' c.toList cs ∧ G'.O (G'.β i) = .bx i) ∧ V.okL σ'.hasB σ'.hasA cs))
    (harr : ∀ k en, σ'.ar k = some en → (σ.ar k = some en ∧ ∀ b, G.O b = .ar k → G'.O b = .ar k ∧ w'.heap[b]? = w.heap[b]?) ∨ (ArrOk T w' G' k en ∧ pureL en.l))
    (htag : ∀ b, G'.O b ≠ .ext → b < w'.heap.size) (hO : ∀ b, G'.O b = G.O b ∨ G'.O b = .ext ∨ Φ.mine b)
    (hframe : ∀ b, w'.heap[b]? = w.heap[b]? ∨ Φ.mine b) (hsize : w.heap.size ≤ w'.heap.size) (hos : w'.os = w.os) (htape : w'.tape = w.tape) (hout : w'.output = w.output) : Inv T Φ σ' a w' G' where
  nd := inv.nd
  sz := inv.sz
  env s := by rw [henv]; exact (inv.env s).keep hk (inv.wfE s) hβ hav
  wfE s := by rw [henv]; exact V.ok.imp hB hA _ (inv.wfE s)
  box i cs hi := by
    rcases hbox i cs hi with ⟨h1, h2, h3⟩ | ⟨h1, _⟩
    · obtain ⟨c, t, g1, g2, g3⟩ := inv.box i cs h1
      refine ⟨c, t, ?_, g2.keep hk (inv.wfB i cs h1) hβ hav, ?_⟩
      · rw [hβ i ⟨cs, h1⟩, h3]; exact g1
      · rw [hβ i ⟨cs, h1⟩]; exact h2
    · exact h1
  wfB i cs hi := by
    rcases hbox i cs hi with ⟨h1, _, _⟩ | ⟨_, h2⟩
    · exact V.okL.imp hB hA _ (inv.wfB i cs h1)
    · exact h2
  arr k en hk' := by
    rcases harr k en hk' with ⟨h1, h2⟩ | ⟨h1, _⟩
    · exact (inv.arr k en h1).keep hk (inv.wfA k en h1) (hav k en.gen ⟨en, h1, Nat.le_refl _⟩) h2
    · exact h1
  wfA k en hk' := by
    rcases harr k en hk' with ⟨h1, _⟩ | ⟨_, h2⟩
    · exact inv.wfA k en h1
    · exact h2
  tag := htag
  mineB b i h := by
    rcases hO b with h1 | h1 | h1
    · exact inv.mineB b i (h1 ▸ h)
    · rw [h1] at h; cases h
    · exact h1
  mineA b k h := by
    rcases hO b with h1 | h1 | h1
    · exact inv.mineA b k (h1 ▸ h)
    · rw [h1] at h; cases h
    · exact h1
  fzm b h := by
    rcases hO b with h1 | h1 | h1
    · exact inv.fzm b (h1 ▸ h)
    · rw [h1] at h; cases h
    · exact .inr h1
  F0 b h := hk.fz b (inv.F0 b h)
  frame b hb hg := by
    rcases hframe b with h1 | h1
    · rw [h1]; exact inv.frame b hb hg
    · rcases h1 with h1 | h1
      · omega
      · exact absurd h1 hg
  size := Nat.le_trans inv.size hsize
  os := hos.trans inv.os
  tape := htape.trans inv.tape
  output := hout.trans inv.output
  args j v h := by
    obtain ⟨h1, h2, en, h3⟩ := inv.args j v h
    have hh : σ.hasA j 0 := ⟨en, h3, Nat.zero_le _⟩
    obtain ⟨en', h4, _⟩ := hA j 0 hh
    exact ⟨(hav j 0 hh).trans h1, h2, en', h4⟩
  lay := inv.lay
  argb i b h := by
    obtain ⟨h1, h2, cs, h3⟩ := inv.argb i b h
    obtain ⟨cs', h4⟩ := hB i ⟨cs, h3⟩
    exact ⟨(hβ i ⟨cs, h3⟩).trans h1, h2, cs', h4⟩

theorem upd_same {α : Type} (f : Nat → α) (s : Nat) (x : α) : upd f s x s = x := by simp [upd]
theorem upd_ne {α : Type} (f : Nat → α) {s t : Nat} (x : α) (h : t ≠ s) : upd f s x t = f t := by
  have : Nat.beq t s = false := by rw [← Bool.not_eq_true, Nat.beq_eq]; exact h
  simp [upd, this]

theorem Inv.ext_size (inv : Inv T Φ σ a w G) {b : Nat} (h : w.heap.size ≤ b) : G.O b = .ext := by
  cases h' : G.O b with
  | ext => rfl
  | _ => have := inv.tag b (by rw [h']; simp); omega

theorem mine_new (inv : Inv T Φ σ a w G) : Φ.mine w.heap.size := .inl inv.size

/-- a new variable -/
theorem Inv.newBox (inv : Inv T Φ σ a w G) {d : Nat} (hd : σ.bx d = none) {c : Array Value} {t : TypeId} {cs : List V} (hc : RvL w G c.toList cs) (hok : V.okL σ.hasB σ.hasA cs) :
    Inv T Φ (σ.apps [.b d cs]) a (w.alloc (.cells c t)) { G with β := upd G.β d w.heap.size, O := upd G.O w.heap.size (.bx d) } := by
  have hold : ∀ b, b < w.heap.size → (w.alloc (.cells c t)).heap[b]? = w.heap[b]? := fun b hb => heap_alloc_old w _ hb
  have hne : ∀ b, G.O b ≠ .ext → b ≠ w.heap.size := fun b hb e => by have := inv.tag b hb; omega
  have hkp : Keep w (w.alloc (.cells c t)) G { G with β := upd G.β d w.heap.size, O := upd G.O w.heap.size (.bx d) } :=
    ⟨fun b hb => by show upd G.O _ _ b = _; rw [upd_ne _ _ (hne b (by rw [hb]; simp))]; exact hb, fun b hb => hold b (inv.tag b (by rw [hb]; simp))⟩
  have hβ : ∀ i, σ.hasB i → upd G.β d w.heap.size i = G.β i := fun i ⟨x, hx⟩ => upd_ne _ _ (fun e => by subst e; rw [hd] at hx; cases hx)
  have hB : ∀ i, σ.hasB i → (σ.apps [.b d cs]).hasB i := fun i ⟨x, hx⟩ => ⟨x, by
    show upd σ.bx d _ i = _
    rw [upd_ne _ _ (fun e => by subst e; rw [hd] at hx; cases hx)]; exact hx⟩
  refine inv.change rfl hkp hβ (fun _ _ _ => rfl) hB (fun _ _ h => h) ?_ ?_ ?_ ?_ ?_ (by simp) rfl rfl rfl
  · intro i xs hi
    by_cases e : i = d
    · subst e
      refine .inr ⟨⟨c, t, ?_, ?_, ?_⟩, ?_⟩
      · show (w.alloc _).heap[upd G.β i w.heap.size i]? = _
        rw [upd_same]; exact heap_alloc_new w _
      · have : xs = cs := by
          have h2 : upd σ.bx i (some cs) i = some xs := hi
          rw [upd_same] at h2; cases h2; rfl
        subst this
        exact hc.keep hkp hok hβ (fun _ _ _ => rfl)
      · show upd G.O _ _ (upd G.β i w.heap.size i) = _
        rw [upd_same, upd_same]
      · have : xs = cs := by
          have h2 : upd σ.bx i (some cs) i = some xs := hi
          rw [upd_same] at h2; cases h2; rfl
        subst this
        exact V.okL.imp hB (fun _ _ h => h) _ hok
    · have h2 : σ.bx i = some xs := by
        have h2 : upd σ.bx d (some cs) i = some xs := hi
        rwa [upd_ne _ _ e] at h2
      obtain ⟨c', t', g1, g2, g3⟩ := inv.box i xs h2
      have hlt := inv.tag (G.β i) (by rw [g3]; simp)
      exact .inl ⟨h2, by show upd G.O _ _ _ = _; rw [upd_ne _ _ (by omega)]; exact g3, hold _ hlt⟩
  · intro k en hk
    refine .inl ⟨hk, fun b hb => ?_⟩
    have hlt := inv.tag b (by rw [hb]; simp)
    exact ⟨by show upd G.O _ _ _ = _; rw [upd_ne _ _ (by omega)]; exact hb, hold b hlt⟩
  · intro b hb
    by_cases e : b = w.heap.size
    · subst e; simp
    · have h2 : upd G.O w.heap.size (.bx d) b ≠ .ext := hb
      rw [upd_ne _ _ e] at h2
      have := inv.tag b h2
      simp; omega
  · intro b
    by_cases e : b = w.heap.size
    · subst e; exact .inr (.inr (mine_new inv))
    · exact .inl (upd_ne _ _ e)
  · intro b
    rcases Nat.lt_trichotomy b w.heap.size with h | h | h
    · exact .inl (hold b h)
    · subst h; exact .inr (mine_new inv)
    · refine .inl ?_
      rw [Array.getElem?_eq_none (by simp; omega), Array.getElem?_eq_none (by omega)]

/-- a variable is written -/
theorem Inv.setBox (inv : Inv T Φ σ a w G) {i : Nat} {old cs : List V} (hi : σ.bx i = some old) {c : Array Value} {t : TypeId} (hc : RvL w G c.toList cs) (hok : V.okL σ.hasB σ.hasA cs)
    (hw : w'.heap[G.β i]? = some (.cells c t (0, 0))) (ho : ∀ b, b ≠ G.β i → w'.heap[b]? = w.heap[b]?) (hs : w'.heap.size = w.heap.size) (hos : w'.os = w.os) (htape : w'.tape = w.tape) (hout : w'.output = w.output) :
    Inv T Φ (σ.apps [.b i cs]) a w' G := by
  obtain ⟨c0, t0, g1, g2, g3⟩ := inv.box i old hi
  have hkp : Keep w w' G G := ⟨fun _ h => h, fun b hb => ho b (fun e => by subst e; rw [g3] at hb; cases hb)⟩
  have hB : ∀ j, σ.hasB j → (σ.apps [.b i cs]).hasB j := fun j ⟨x, hx⟩ => by
    by_cases e : j = i
    · subst e; exact ⟨cs, upd_same _ _ _⟩
    · exact ⟨x, by show upd σ.bx i _ j = _; rw [upd_ne _ _ e]; exact hx⟩
  refine inv.change rfl hkp (fun _ _ => rfl) (fun _ _ _ => rfl) hB (fun _ _ h => h) ?_ ?_ ?_ (fun _ => .inl rfl) ?_ (by omega) hos htape hout
  · intro j xs hj
    by_cases e : j = i
    · subst e
      have : xs = cs := by
        have h2 : upd σ.bx j (some cs) j = some xs := hj
        rw [upd_same] at h2; cases h2; rfl
      subst this
      exact .inr ⟨⟨c, t, hw, hc.keep hkp hok (fun _ _ => rfl) (fun _ _ _ => rfl), g3⟩, V.okL.imp hB (fun _ _ h => h) _ hok⟩
    · have h2 : σ.bx j = some xs := by
        have h2 : upd σ.bx i (some cs) j = some xs := hj
        rwa [upd_ne _ _ e] at h2
      obtain ⟨c', t', q1, q2, q3⟩ := inv.box j xs h2
      exact .inl ⟨h2, q3, ho _ (fun e2 => by rw [e2, g3] at q3; cases q3; exact e rfl)⟩
  · intro k en hk
    exact .inl ⟨hk, fun b hb => ⟨hb, ho b (fun e => by subst e; rw [g3] at hb; cases hb)⟩⟩
  · intro b hb; rw [hs]; exact inv.tag b hb
  · intro b
    by_cases e : b = G.β i
    · subst e; exact .inr (inv.mineB _ i g3)
    · exact .inl (ho b e)

/-- an array of the call's own: made, or gone on to another state -/
theorem Inv.setArr (inv : Inv T Φ σ a w G) {k : Nat} {en : AE} {av' : Nat → Nat → Value} {O' : Nat → Tag}
    (hA : ∀ g, σ.hasA k g → g ≤ en.gen) (hav : ∀ k' g, σ.hasA k' g → av' k' g = G.av k' g) (hp : pureL en.l)
    (hok : ArrOk T w' { G with av := av', O := O' } k en)
    (hO : ∀ b, G.O b ≠ .ext → G.O b ≠ .ar k → O' b = G.O b) (hO' : ∀ b, O' b = G.O b ∨ O' b = .ext ∨ (O' b = .ar k ∧ Φ.mine b ∧ b < w'.heap.size) ∨ (O' b = .fz ∧ G.O b = .ar k))
    (ho : ∀ b, b < w.heap.size → G.O b ≠ .ar k → w'.heap[b]? = w.heap[b]?) (hs : w.heap.size ≤ w'.heap.size) (hos : w'.os = w.os) (htape : w'.tape = w.tape) (hout : w'.output = w.output) :
    Inv T Φ (σ.apps [.a k en]) a w' { G with av := av', O := O' } := by
  have hlt : ∀ b, G.O b ≠ .ext → b < w.heap.size := inv.tag
  have hkp : Keep w w' G { G with av := av', O := O' } := ⟨fun b hb => (hO b (by rw [hb]; simp) (by rw [hb]; simp)).trans hb, fun b hb => ho b (hlt b (by rw [hb]; simp)) (by rw [hb]; simp)⟩
  have hA' : ∀ j g, σ.hasA j g → (σ.apps [.a k en]).hasA j g := fun j g hh => by
    by_cases e : j = k
    · subst e; exact ⟨en, upd_same _ _ _, hA g hh⟩
    · obtain ⟨x, hx, hg⟩ := hh
      exact ⟨x, by show upd σ.ar k _ j = _; rw [upd_ne _ _ e]; exact hx, hg⟩
  refine inv.change rfl hkp (fun _ _ => rfl) hav (fun _ h => h) hA' ?_ ?_ ?_ ?_ ?_ hs hos htape hout
  · intro i cs hi
    obtain ⟨c, t, q1, q2, q3⟩ := inv.box i cs hi
    have hl := hlt (G.β i) (by rw [q3]; simp)
    exact .inl ⟨hi, (hO _ (by rw [q3]; simp) (by rw [q3]; simp)).trans q3, ho _ hl (by rw [q3]; simp)⟩
  · intro j x hj
    by_cases e : j = k
    · subst e
      have : x = en := by
        have h2 : upd σ.ar j (some en) j = some x := hj
        rw [upd_same] at h2; cases h2; rfl
      subst this
      exact .inr ⟨hok, hp⟩
    · have h2 : σ.ar j = some x := by
        have h2 : upd σ.ar k (some en) j = some x := hj
        rwa [upd_ne _ _ e] at h2
      refine .inl ⟨h2, fun b hb => ?_⟩
      have hl := hlt b (by rw [hb]; simp)
      have hn : G.O b ≠ .ar k := by rw [hb]; intro e2; cases e2; exact e rfl
      exact ⟨(hO b (by rw [hb]; simp) hn).trans hb, ho b hl hn⟩
  · intro b hb
    rcases hO' b with h | h | h | h
    · have : G.O b ≠ .ext := by rw [← h]; exact hb
      have := hlt b this; omega
    · exact absurd h hb
    · exact h.2.2
    · have := hlt b (by rw [h.2]; simp); omega
  · intro b
    rcases hO' b with h | h | h | h
    · exact .inl h
    · exact .inr (.inl h)
    · exact .inr (.inr h.2.1)
    · exact .inr (.inr (inv.mineA b k h.2))
  · intro b
    rcases Nat.lt_or_ge b w.heap.size with h | h
    · by_cases e : G.O b = .ar k
      · exact .inr (inv.mineA b k e)
      · exact .inl (ho b h e)
    · exact .inr (.inl (Nat.le_trans inv.size h))

/-- a slot is written -/
theorem Inv.putSlot (inv : Inv T Φ σ a w G) {d : Nat} (hd : d < Φ.n) {v' : Value} {v : V} (hv : Rv w G v' v) (hok : v.ok σ.hasB σ.hasA) : Inv T Φ (σ.set d v) (a.put (some d) v') w G where
  nd := inv.nd
  sz := by show (a.tmps.setIfInBounds d v').size = _; simp [inv.sz]
  env s := by
    show Rv w G ((a.tmps.setIfInBounds d v').getD s undef) (upd σ.env d v s)
    by_cases e : s = d
    · subst e
      rw [upd_same]
      have : (a.tmps.setIfInBounds s v').getD s undef = v' := by simp [inv.sz, hd]
      rw [this]; exact hv
    · rw [upd_ne _ _ e]
      have : (a.tmps.setIfInBounds d v').getD s undef = a.tmps.getD s undef := by
        simp [Array.getElem?_setIfInBounds_ne (Ne.symm e)]
      rw [this]; exact inv.env s
  wfE s := by
    show (upd σ.env d v s).ok _ _
    by_cases e : s = d
    · subst e; rw [upd_same]; exact hok
    · rw [upd_ne _ _ e]; exact inv.wfE s
  box := inv.box
  wfB := inv.wfB
  arr := inv.arr
  wfA := inv.wfA
  tag := inv.tag
  mineB := inv.mineB
  mineA := inv.mineA
  fzm := inv.fzm
  F0 := inv.F0
  frame := inv.frame
  size := inv.size
  os := inv.os
  tape := inv.tape
  output := inv.output
  args := inv.args
  lay := inv.lay
  argb := inv.argb

theorem Inv.drew (inv : Inv T Φ σ a w G) (n : Nat) : Inv T Φ σ a { w with drawn := n } G :=
  inv.change rfl ⟨fun _ h => h, fun _ _ => rfl⟩ (fun _ _ => rfl) (fun _ _ _ => rfl) (fun _ h => h) (fun _ _ h => h)
    (fun i cs hi => .inl ⟨hi, (inv.box i cs hi).choose_spec.choose_spec.2.2, rfl⟩) (fun _ _ hk => .inl ⟨hk, fun _ hb => ⟨hb, rfl⟩⟩) inv.tag (fun _ => .inl rfl) (fun _ => .inl rfl) (Nat.le_refl _) rfl rfl rfl
end
end Go.Ab
