/-
  The executor over calls, regions and code.
-/
import Derived.Test.YtbmbfifobonfjaaAbRel
set_option linter.unusedVariables false
set_option linter.unusedSimpArgs false
namespace Go.Ab

/-- y is a plain view of the cell x -/
def viewVC (ar : Nat → Option AE) (x y : V) : Prop :=
  match y with
  | .sl l => match x with
    | .sl l' => l' = l
    | .cap l' => l' = l
    | .lit (.slice none 0 0) => l = []
    | .arr k g => match ar k with
      | some en => en.gen = g ∧ en.kind ≠ .dead ∧ en.l = l
      | none => False
    | _ => False
  | .cap l => match x with
    | .cap l' => l' = l
    | .lit (.slice none 0 0) => l = []
    | _ => False
  | .lit u => match x with
    | .lit u' => u' = u
    | _ => False
  | _ => False

noncomputable def viewL (ar : Nat → Option AE) (ys : List V) : List V → Prop :=
  List.rec (motive := fun _ => List V → Prop) (fun xs => match xs with | [] => True | _ :: _ => False)
    (fun y _ ih xs => match xs with | x :: xr => viewVC ar x y ∧ ih xr | [] => False) ys

/-- x of the frame is handed over as y -/
noncomputable def giveVC (T : Tab) (ar : Nat → Option AE) (x y : V) : Prop :=
  match y with
  | .own e l => match x with
    | .lit (.slice none 0 0) => e < T.n e ∧ l = []
    | .arr k g => match ar k with
      | some en => en.gen = g ∧ en.kind = .own ∧ en.ty = e ∧ en.l = l
      | none => False
    | _ => False
  | .ap e l => match x with
    | .lit (.slice none 0 0) => e < T.n e ∧ l = []
    | .cap l' => e < T.n e ∧ (∀ x ∈ l', x.cells.length = (T.row e).size) ∧ l' = l
    | .arr k g => match ar k with
      | some en => en.gen = g ∧ (en.kind = .own ∨ en.kind = .ap) ∧ en.ty = e ∧ en.l = l
      | none => False
    | _ => False
  | .agg ys => match x with
    | .agg xs => viewL ar ys xs
    | _ => False
  | y => viewVC ar x y

noncomputable def giveL (T : Tab) (ar : Nat → Option AE) (ys : List V) : List V → Prop :=
  List.rec (motive := fun _ => List V → Prop) (fun xs => match xs with | [] => True | _ :: _ => False)
    (fun y _ ih xs => match xs with | x :: xr => giveVC T ar x y ∧ ih xr | [] => False) ys

/-- the arrays that x names -/
def akey (x : V) : List Nat := match x with | .arr k _ => [k] | _ => []
noncomputable def akeys (x : V) : List Nat :=
  match x with
  | .arr k _ => [k]
  | .agg cs => List.rec (motive := fun _ => List Nat) [] (fun x _ ih => appR (akey x) ih) cs
  | _ => []
def linear (y : V) : Bool := match y with | .own _ _ => true | .ap _ _ => true | _ => false
/-- the arrays that are handed over, and those that are looked at -/
noncomputable def ownKeys (ys : List V) : List V → List Nat :=
  List.rec (motive := fun _ => List V → List Nat) (fun _ => []) (fun y _ ih xs => match xs with | x :: xr => appR (cond (linear y) (akeys x) []) (ih xr) | [] => []) ys
noncomputable def viewKeys (ys : List V) : List V → List Nat :=
  List.rec (motive := fun _ => List V → List Nat) (fun _ => []) (fun y _ ih xs => match xs with | x :: xr => appR (cond (linear y) [] (akeys x)) (ih xr) | [] => []) ys
noncomputable def memR (k : Nat) (l : List Nat) : Bool := List.rec (motive := fun _ => Bool) false (fun x _ ih => cond (Nat.beq k x) true ih) l
noncomputable def nodupR (l : List Nat) : Bool := List.rec (motive := fun _ => Bool) true (fun x r ih => cond (memR x r) false ih) l

def flat1 (x : V) : Bool := match x with | .lit _ => true | _ => false
noncomputable def flatA (x : V) : Bool := match x with | .lit _ => true | .agg cs => allR flat1 cs | _ => false
noncomputable def flatV (x : V) : Bool := match x with | .lit _ => true | .agg cs => allR flat1 cs | .tup cs => allR flatA cs | _ => false

/-- what is handed over is handed over once, and not looked at besides -/
noncomputable def keysOk (xs ys : List V) : Bool := nodupR (ownKeys ys xs) && allR (fun k => !memR k (viewKeys ys xs)) (ownKeys ys xs)

noncomputable def deadMods (σ : St) (ks : List Nat) : List Mod :=
  List.rec (motive := fun _ => List Mod) [] (fun k _ ih => match σ.ar k with | some en => .a k ⟨en.gen, .dead, en.ty, []⟩ :: ih | none => ih) ks
noncomputable def frzMods (σ : St) (ks : List Nat) : List Mod :=
  List.rec (motive := fun _ => List Mod) [] (fun k _ ih => match σ.ar k with
    | some en => match en.kind with
      | .own => .a k ⟨en.gen, .frz, en.ty, en.l⟩ :: ih
      | .ap => .a k ⟨en.gen, .frz, en.ty, en.l⟩ :: ih
      | _ => ih
    | none => ih) ks
noncomputable def reuse (σ : St) (ks : List Nat) : Option (Nat × Nat) :=
  match ks with
  | k :: _ => match σ.ar k with
    | some en => some (k, en.gen + 1)
    | none => none
  | [] => none

/-- results as they come into the frame -/
noncomputable def recvL (σ : St) (d : Nat) (rs : List V) : Nat → Option (Nat × Nat) → (List V → List Mod → Prop) → Prop :=
  List.rec (motive := fun _ => Nat → Option (Nat × Nat) → (List V → List Mod → Prop) → Prop) (fun _ _ K => K [] [])
    (fun y _ ih j ro K => match y with
      | .own e l => match ro with
        | some (k, g) => ih (j + 1) none fun vs ms => K (.arr k g :: vs) (.a k ⟨g, .own, e, l⟩ :: ms)
        | none => match σ.ar (d + 1000 * j) with
          | none => ih (j + 1) none fun vs ms => K (.arr (d + 1000 * j) 0 :: vs) (.a (d + 1000 * j) ⟨0, .own, e, l⟩ :: ms)
          | some _ => False
      | .ap e l => match ro with
        | some (k, g) => ih (j + 1) none fun vs ms => K (.arr k g :: vs) (.a k ⟨g, .ap, e, l⟩ :: ms)
        | none => match σ.ar (d + 1000 * j) with
          | none => ih (j + 1) none fun vs ms => K (.arr (d + 1000 * j) 0 :: vs) (.a (d + 1000 * j) ⟨0, .ap, e, l⟩ :: ms)
          | some _ => False
      | y => force y fun y => ih (j + 1) ro fun vs ms => K (y :: vs) ms) rs
noncomputable def recvK (σ : St) (d : Nat) (ro : Option (Nat × Nat)) (r : V) (K : VK) : Prop :=
  match r with
  | .tup rs => recvL σ d rs 0 ro fun vs ms => K (.tup vs) ms
  | r => recvL σ d [r] 0 ro fun vs ms => match vs with | v :: _ => K v ms | [] => False

/-- light: nothing is handed over, nothing is frozen -/
noncomputable def callOk (light lend : Bool) (xs ys : List V) (r : V) : Bool :=
  keysOk xs ys && Nat.ble (lenR (ownKeys ys xs)) 1 && (cond lend (flatV r) true) && (cond light (Nat.beq (lenR (ownKeys ys xs)) 0 && (lend || Nat.beq (lenR (viewKeys ys xs)) 0)) true)

structure callVC (T : Tab) (P : Program) (light : Bool) (σ : St) (d : Nat) (f : FuncId) (xs : List V) (K : VK) : Prop where
  out : ∃ (ys : List V) (r : V) (lend : Bool), giveL T σ.ar ys xs ∧ callOk light lend xs ys r = true ∧ Spec T P f ys r ∧
    recvK σ d (reuse σ (ownKeys ys xs)) r fun v ms => K v (appR (cond lend [] (frzMods σ (viewKeys ys xs))) (appR (deadMods σ (ownKeys ys xs)) ms))

noncomputable def operVC (T : Tab) (P : Program) (light : Bool) (σ : St) (d : Nat) (op : Op) (K : VK) : Prop :=
  match op with
  | .call ⟨.value (.func f), ⟨as⟩, _⟩ => forceL (mapR σ.ev as) fun xs => callVC T P light σ d f xs K
  | op => opVC T σ d op K

abbrev OpsK := (Nat → V) → (Nat → Option (List V)) → (Nat → Option AE) → (St → Prop) → Prop

noncomputable def appsS (ms : List Mod) : (env : Nat → V) → (bx : Nat → Option (List V)) → (ar : Nat → Option AE) → (K : (Nat → V) → (Nat → Option (List V)) → (Nat → Option AE) → Prop) → Prop :=
  List.rec (motive := fun _ => (env : Nat → V) → (bx : Nat → Option (List V)) → (ar : Nat → Option AE) → (K : (Nat → V) → (Nat → Option (List V)) → (Nat → Option AE) → Prop) → Prop)
    (fun env bx ar K => K env bx ar)
    (fun m _ ih env bx ar K => match m with
      | .b i cs => ih env (upd bx i (some cs)) ar K
      | .a k en => ih env bx (upd ar k (some en)) K) ms

noncomputable def guardSlot (ops : List Oper) (j : Nat) : Option Nat := (nth ops j).bind (·.dst)

/-- an operation that is carried out -/
noncomputable def runOp (T : Tab) (P : Program) (light : Bool) (n : Nat) (dst : Option Nat) (op : Op) (ih : OpsK) : OpsK := fun env bx ar K =>
  match dst with
  | some d => cond (Nat.blt d n) (operVC T P light ⟨env, bx, ar⟩ d op fun v ms => appsS ms env bx ar fun env bx ar => ih (upd env d v) bx ar K) False
  | none => operVC T P light ⟨env, bx, ar⟩ n op fun _ ms => appsS ms env bx ar fun env bx ar => ih env bx ar K
/-- one that is not -/
def skipOp (n : Nat) (dst : Option Nat) (ih : OpsK) : OpsK := fun env bx ar K =>
  match dst with
  | some d => cond (Nat.blt d n) (ih (upd env d (.tup [])) bx ar K) False
  | none => ih env bx ar K

noncomputable def opStep (T : Tab) (P : Program) (light : Bool) (n : Nat) (ops : List Oper) (o : Oper) (ih : OpsK) : OpsK := fun env bx ar K =>
  match o with
  | ⟨dst, op, _, _, _, guard⟩ =>
    match guard with
    | none => runOp T P light n dst op ih env bx ar K
    | some (j, want) =>
      match guardSlot ops j with
      | some s => match env s with
        | .lit (.bool b) =>
          branch b
            (cond want (runOp T P light n dst op ih (upd env s (B true)) bx ar K) (skipOp n dst ih (upd env s (B true)) bx ar K))
            (cond want (skipOp n dst ih (upd env s (B false)) bx ar K) (runOp T P light n dst op ih (upd env s (B false)) bx ar K))
        | .tup _ => skipOp n dst ih env bx ar K
        | _ => False
      | none => False

noncomputable def opsVC (T : Tab) (P : Program) (light : Bool) (n : Nat) (ops l : List Oper) : OpsK :=
  List.rec (motive := fun _ => OpsK) (fun env bx ar K => K ⟨env, bx, ar⟩) (fun o _ ih => opStep T P light n ops o ih) l

/-! ### regions that draw their order -/
def cls : Op → Nat
  | .move _ => 0
  | .assign _ => 0
  | .pick _ _ _ => 0
  | .unOp _ _ _ => 0
  | .binOp _ _ _ _ _ => 0
  | .fieldAddr _ _ _ => 0
  | .field _ _ _ => 0
  | .extract _ _ => 0
  | .build _ _ => 0
  | .convert _ _ _ => 0
  | .index _ _ _ => 0
  | .call ⟨.builtin .max, _, _⟩ => 0
  | .call ⟨.builtin .min, _, _⟩ => 0
  | .box _ _ => 1
  | .alloc _ => 1
  | .buildSlice _ _ _ => 1
  | .makeSlice _ _ _ => 1
  | .load _ _ => 2
  | .indexAddr _ _ _ => 2
  | .slice _ _ _ _ _ => 2
  | .call ⟨.builtin .len, _, _⟩ => 2
  | .call ⟨.value (.func _), _, _⟩ => 3
  | .store _ _ _ => 4
  | .call ⟨.builtin .append, _, _⟩ => 4
  | _ => 5

def clash (a b : Nat) : Bool := (Nat.ble 4 a && Nat.ble 2 b) || (Nat.ble 4 b && Nat.ble 2 a) || Nat.ble 5 a || Nat.ble 5 b

def maskOf (ms : List Nat) (o : Oper) : Nat := o.after.foldl (fun m e => if Region.binds .any e then m ||| 2 ^ e.on ||| ms.getD e.on 0 else m) 0
/-- of each operation the set of those that must come before it -/
def masks (ops : List Oper) : List Nat := ops.foldl (fun ms o => ms ++ [maskOf ms o]) []

/-- what is claimed of a slot: that it holds the address of this variable of the call -/
def claim (cl : List (Nat × Nat)) (u : Nat) : Option Nat := (cl.find? fun q => Nat.beq q.1 u).map (·.2)
/-- an operation that writes a claimed slot keeps the claim -/
def claimOk (cl : List (Nat × Nat)) (o : Oper) : Bool :=
  match o.dst with
  | none => true
  | some d => match claim cl d with
    | none => true
    | some i => match o.op with
      | .fieldAddr _ (.tmp u) _ => match claim cl u with | some j => Nat.beq i j | none => false
      | _ => false
/-- a load from a claimed variable, and a store to another one or an append -/
def loadSep (cl : List (Nat × Nat)) (p o : Op) : Bool :=
  match p with
  | .load _ (.tmp u) => match claim cl u with
    | some i => match o with
      | .store _ (.tmp u') _ => match claim cl u' with | some j => !Nat.beq i j | none => false
      | .call ⟨.builtin .append, _, _⟩ => true
      | _ => false
    | none => false
  | _ => false

/-- each operation waits only for ones ahead of it in the text; two of which neither waits for the other do not touch each other -/
def regionOkC (cl : List (Nat × Nat)) (ops : List Oper) : Bool :=
  let ms := masks ops
  ops.all (claimOk cl) && ops.zipIdx.all fun (o, k) => o.after.all (fun e => !Region.binds .any e || decide (e.on < k)) && !(o.op matches .select _ _) &&
    (ops.take k).zipIdx.all fun (p, i) => (ms.getD k 0).testBit i || (Oper.apart ops.toArray p o && Oper.apart ops.toArray o p && (!clash (cls p.op) (cls o.op) || loadSep cl p.op o.op))
def regionOk (ops : List Oper) : Bool := regionOkC [] ops

def okB (i : Nat) (v : V) : Prop :=
  match v with
  | .box j _ => j = i
  | .bot => True
  | .tup [] => True
  | _ => False
noncomputable def goodL (cl : List (Nat × Nat)) (env : Nat → V) : Prop := List.rec (motive := fun _ => Prop) True (fun q _ ih => okB q.2 (env q.1) ∧ ih) cl

/-! ### code -/
abbrev CodeK := St → (Exit → St → Prop) → Prop

noncomputable def ofL {α : Type} (d : α) (l : List (Nat × α)) : Nat → α :=
  List.rec (motive := fun _ => Nat → α) (fun _ => d) (fun p _ ih s => cond (Nat.beq s p.1) p.2 (ih s)) l
noncomputable def ofO {α : Type} (l : List (Nat × α)) : Nat → Option α :=
  List.rec (motive := fun _ => Nat → Option α) (fun _ => none) (fun p _ ih s => cond (Nat.beq s p.1) (some p.2) (ih s)) l
noncomputable def mkSt (e : List (Nat × V)) (b : List (Nat × List V)) (r : List (Nat × AE)) : St := ⟨ofL .bot e, ofO b, ofO r⟩

/-- an assertion over states, with parameters -/
structure Ann where
  A : Type
  st : A → St
  inv : A → Prop
  m : A → Nat

structure SeqVC (T : Tab) (x y : CodeK) (σ : St) (Q : Exit → St → Prop) : Prop where
  out : (x σ fun e σ' => match e with
    | .normal => y σ' Q
    | e => Q e σ') ∨
  ∃ C : Ann, (x σ fun e σ' => match e with
    | .normal => ∃ p, Le T σ' (C.st p) ∧ C.inv p
    | e => Q e σ') ∧ ∀ p, C.inv p → y (C.st p) Q

structure LoopVC (T : Tab) (x : CodeK) (σ : St) (Q : Exit → St → Prop) : Prop where
  out : ∃ L : Ann, (∃ p, Le T σ (L.st p) ∧ L.inv p) ∧ ∀ p, L.inv p → x (L.st p) fun e σ' => match e with
    | .normal => ∃ p', Le T σ' (L.st p') ∧ L.inv p' ∧ L.m p' < L.m p
    | e => Q e σ'

structure drawVC (env : Nat → V) (ops : List Oper) (K : Prop) : Prop where
  out : ∃ cl, goodL cl env ∧ regionOkC cl ops = true ∧ K

noncomputable def codeVC (T : Tab) (P : Program) (n : Nat) (c : Code) : CodeK :=
  Code.rec (motive := fun _ => CodeK)
    (fun σ Q => Q .normal σ)
    (fun _ ops draw σ Q => match σ with | ⟨env, bx, ar⟩ => match draw with
      | true => drawVC env ops.toList (opsVC T P true n ops.toList ops.toList env bx ar (Q .normal))
      | false => opsVC T P false n ops.toList ops.toList env bx ar (Q .normal))
    (fun _ _ iha ihb => SeqVC T iha ihb)
    (fun c _ _ iht ihe σ Q => match σ.ev c with
      | .lit (.bool b) => branch b (iht σ Q) (ihe σ Q)
      | _ => False)
    (fun id _ ih σ Q => ih σ fun e σ' => match e with
      | .exit i => cond (Nat.beq i id) (Q .normal σ') (Q (.exit i) σ')
      | e => Q e σ')
    (fun _ ih => LoopVC T ih)
    (fun _ _ _ _ _ _ _ _ => False)
    (fun id σ Q => Q (.exit id) σ)
    (fun _ _ _ _ => False)
    (fun _ _ _ => False)
    (fun _ _ _ => False)
    (fun σ Q => Q .ret σ)
    (fun _ _ _ => False) c

/-- the frame at the entry -/
noncomputable def initEnv (ys : List V) : Nat → Nat → V :=
  List.rec (motive := fun _ => Nat → Nat → V) (fun _ _ => .tup []) (fun y _ ih j s => cond (Nat.beq s j) (cond (linear y) (.arr j 0) y) (ih (j + 1) s)) ys
noncomputable def initAr (ys : List V) : Nat → Nat → Option AE :=
  List.rec (motive := fun _ => Nat → Nat → Option AE) (fun _ _ => none) (fun y _ ih j s => cond (Nat.beq s j) (match y with
    | .own e l => some ⟨0, .own, e, l⟩
    | .ap e l => some ⟨0, .ap, e, l⟩
    | _ => none) (ih (j + 1) s)) ys
noncomputable def initSt (ys : List V) : St := ⟨initEnv ys 0, fun _ => none, initAr ys 0⟩

/-- the results, read at the end -/
noncomputable def resVC (T : Tab) (σ : St) (rs : List ResultVar) : (List V → Prop) → Prop :=
  List.rec (motive := fun _ => (List V → Prop) → Prop) (fun K => K [])
    (fun x _ ih K => match x with
      | .tmp t => force (σ.env t) fun v => ih fun vs => K (v :: vs)
      | .cell a t => cond (Nat.blt t (T.n t)) (loadVC (T.row t) σ (σ.env a) fun v _ => ih fun vs => K (v :: vs)) False) rs

structure retVC (T : Tab) (σ : St) (rs : List ResultVar) (r : V) : Prop where
  out : resVC T σ rs fun xs => match xs with
    | [x] => giveL T σ.ar [r] [x] ∧ keysOk [x] [r] = true ∧ (∀ rs, r ≠ .tup rs)
    | xs => ∃ ys, r = .tup ys ∧ giveL T σ.ar ys xs ∧ keysOk xs ys = true

noncomputable def fnVC (T : Tab) (P : Program) (fn : Func) (ys : List V) (r : V) : Prop :=
  match fn.body with
  | some c => codeVC T P fn.ntmps c (initSt ys) fun e σ => match e with
    | .normal => retVC T σ fn.results.toList r
    | .ret => retVC T σ fn.results.toList r
    | _ => False
  | none => False

end Go.Ab
