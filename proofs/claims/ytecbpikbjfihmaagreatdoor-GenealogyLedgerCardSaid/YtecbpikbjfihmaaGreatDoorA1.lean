/- Lemmas. -/
import Derived.Test.YtecbpikbjfihmaaGreatDoorA0
import Derived.WalkKit
import Derived.Deep.Draws
import Derived.Laws.AppendOwn
import Derived.MapKept
import Derived.OrdersIn
import Derived.TacticsIn
import Derived.RangeFuncLeaves
import Derived.RangeFuncRecord
import Derived.RangeFuncSeq
set_option linter.all false
set_option autoImplicit true
set_option relaxedAutoImplicit true
noncomputable section
namespace Go.Ab
inductive V where
 |bot
 |lit (u:Value)
 |agg (cs:List V)
 |tup (cs:List V)
 |sl (l:List V)
 |cap (l:List V)
 |own (e:TypeId) (l:List V)
 |ap (e:TypeId) (l:List V)
 |box (i off:Nat)
 |arr (k g:Nat)
 |fp (cs:List V)
 |ae (k g sz i off:Nat)
 |fn (g:FuncId) (caps:List V)
inductive AK where
 |own|ap|frz|dead
structure AE where
 gen:Nat
 kind:AK
 ty:TypeId
 l:List V
structure St where
 env:Nat->V
 bx:Nat->Option (List V)
 ar:Nat->Option AE
inductive Mod where
 |b (i:Nat) (cs:List V)
 |a (k:Nat) (en:AE)
def upd{α:Type}(f:Nat->α)(s:Nat)(x:α):Nat->α:=λt=>cond (Nat.beq t s) x (f t)
inductive Kd where
 |bool|int (k:IntKind)|str|slice|struct|array|map|ptr|other
structure Row where
 size:Nat
 bytes:Nat
 agg:Bool
 kd:Kd
 elem:TypeId
 alen:Nat
 flds:List (Nat×Nat×Kd×TypeId)
 zero:List Value
 eq:Bool
structure Tab where
 n:TypeId->Nat
 row:TypeId->Row
 lay:World->(Nat->Prop)->Prop
 lay_mono:∀ {w w':World} {F F':Nat->Prop},(∀b,F b->F' b/\w'.heap[b]? =w.heap[b]?)->lay w F->lay w' F'
 ref:FuncId->Bool
def V.cells:V->List V
 | .agg cs=>cs
 |x=> [x]
def nth{α:Type}(l:List α):Nat->Option α:=
 List.rec (motive:=λ_=>Nat->Option α) (λ_=>none) (λx _ ih n=>cond (Nat.beq n 0) (some x) (ih (Nat.pred n))) l
def rO{α:Type}(l:List α):Nat->List α:=
 List.rec (motive:=λ_=>Nat->List α) (λ_=> []) (λx _ ih n=>cond (Nat.beq n 0) [] (x::ih (Nat.pred n))) l
def jX{α:Type}(l:List α):Nat->List α:=
 List.rec (motive:=λ_=>Nat->List α) (λ_=> []) (λx r ih n=>cond (Nat.beq n 0) (x::r) (ih (Nat.pred n))) l
def appR{α:Type}(l m:List α):List α:=List.rec (motive:=λ_=>List α) m (λx _ ih=>x::ih) l
def lenR{α:Type}(l:List α):Nat:=List.rec (motive:=λ_=>Nat) 0 (λ_ _ ih=>Nat.succ ih) l
def mapR{α β:Type}(f:α->β)(l:List α):List β:=List.rec (motive:=λ_=>List β) [] (λx _ ih=>f x::ih) l
def allR{α:Type}(f:α->Bool)(l:List α):Bool:=List.rec (motive:=λ_=>Bool) true (λx _ ih=>cond (f x) ih false) l
def V.frz(i:Nat)(cs:List V)(x:V):V:=
 V.rec (motive_1:=λ_=>V) (motive_2:=λ_=>List V)
   .bot (λu=> .lit u) (λ_ ih=> .agg ih) (λ_ ih=> .tup ih) (λl _=> .sl l) (λl _=> .cap l) (λe l _=> .own e l) (λe l _=> .ap e l)
   (λj off=>cond (Nat.beq j i) (.fp (jX cs off)) (.box j off)) (λk g=> .arr k g) (λl _=> .fp l) (λk g z i o=> .ae k g z i o) (λg _ ih=> .fn g ih)
   [] (λ_ _ ih1 ih2=>ih1::ih2) x
def frzB(i:Nat)(cs:List V)(bx:Nat->Option (List V)):Nat->Option (List V):=λj=>cond (Nat.beq j i) none (match bx j with|none=>none|some l=>some (mapR (V.frz i cs) l))
def dD8:Value->V
 | .agg cs=>cond (allR Value.oneCell' cs.toList) (.agg (mapR .lit cs.toList)) .bot
 | .tuple _=> .bot
 |v=> .lit v
def St.ev(σ:St):Operand->V
 | .tmp t=>σ.env t
 | .const v=>dD8 v
 | .global _=> .bot
 | .func f=> .fn f []
def Mod.app(σ:St):Mod->St
 | .b i cs=> {σ with bx:=upd σ.bx i (some cs)}
 | .a k en=> {σ with ar:=upd σ.ar k (some en)}
def St.apps(σ:St)(ms:List Mod):St:=ms.foldl Mod.app σ
def St.set(σ:St)(d:Nat)(v:V):St:={σ with env:=upd σ.env d v}
def St.put(σ:St)(d:Option Nat)(v:V)(ms:List Mod):St:=
 match d with
 |some d=>(σ.apps ms).set d v
 |none=>σ.apps ms
structure arith(k:IntKind)(n:Int)(K:Int->Prop):Prop where
 out:K (k.wrap n)
structure idx(l:List V)(i:Nat)(K:V->Prop):Prop where
 out:∃x,l[i]? =some x/\K x
structure need(p:Prop)(K:Prop):Prop where
 out:p/\K
def branch(b:Bool)(A B:Prop):Prop:=match b with|true=>A|false=>B
@[irreducible] def ltB(a b:Int):Bool:= @decide (a<b) (Classical.propDecidable _)
@[irreducible] def leB(a b:Int):Bool:= @decide (a<=b) (Classical.propDecidable _)
@[irreducible] def eqB(a b:Int):Bool:= @decide (a=b) (Classical.propDecidable _)
@[irreducible] def eqBB(a b:Bool):Bool:=a==b
@[irreducible] def eqS(a b:ByteArray):Bool:=a.toList==b.toList
@[irreducible] def eqSB(a b:ByteArray):Bool:=a==b
@[irreducible] def ltS(a b:ByteArray):Bool:=Op.bytesLess a.toList b.toList
@[irreducible] def andB(a b:Bool):Bool:=a&&b
@[irreducible] def maxI(a b:Int):Int:= @ite _ (b>a) (Classical.propDecidable _) b a
@[irreducible] def minI(a b:Int):Int:= @ite _ (b<a) (Classical.propDecidable _) b a
@[irreducible] def shrI(k:IntKind)(a b:Int):Int:=a.fdiv (2^(min b.toNat k.bits))
@[irreducible] def shlI(k:IntKind)(a b:Int):Int:=a*2^(min b.toNat k.bits)
@[irreducible] def orI(k:IntKind)(a b:Int):Int:=k.wrap (BitVec.ofInt k.bits a|||BitVec.ofInt k.bits b).toNat
@[irreducible] def byteAt(s:ByteArray)(i:Nat):Int:=((s[i]?).getD 0).toNat
def lC(k:IntKind)(n:Int):V:= .lit (.int k n)
def B(b:Bool):V:= .lit (.bool b)
def force(v:V)(K:V->Prop):Prop:=
 match v with
 | .bot=>K .bot
 | .lit u=>K (.lit u)
 | .agg cs=>K (.agg cs)
 | .tup cs=>K (.tup cs)
 | .sl l=>K (.sl l)
 | .cap l=>K (.cap l)
 | .own e l=>K (.own e l)
 | .ap e l=>K (.ap e l)
 | .box i o=>K (.box i o)
 | .arr k g=>K (.arr k g)
 | .fp cs=>K (.fp cs)
 | .ae k g z i o=>K (.ae k g z i o)
 | .fn g cs=>K (.fn g cs)
def bJ(l:List V):(List V->Prop)->Prop:=
 List.rec (motive:=λ_=>(List V->Prop)->Prop) (λK=>K []) (λx _ ih K=>force x λx'=>ih λr'=>K (x'::r')) l
def splice(cs:List V)(off:Nat)(xs:List V):List V:=appR (rO cs off) (appR xs (jX cs (off+lenR xs)))
def V.still:V->Bool
 | .lit _=>true
 | .fp _=>true
 |_=>false
def V.mapV(kz:Value)(es:List V):V:= .fn 0 [.ap 0 [], .lit kz, .sl es]
def isMapC(cs:List V):Bool:=match cs with| [.ap 0 [], .lit _, .sl _] =>true|_=>false
def isFnC(cs:List V):Bool:=match cs with| .ap _ _::_=>false|_=>true
def V.atom:V->Bool
 | .lit _=>true
 | .sl _=>true
 | .cap _=>true
 | .fn _ cs=>cond (isMapC cs) true (allR V.still cs)
 |_=>false
def V.one:V->Bool
 | .lit _=>true
 | .sl _=>true
 | .cap _=>true
 | .arr _ _=>true
 | .box _ _=>true
 | .fp _=>true
 | .ae _ _ _ _ _=>true
 | .fn _ _=>true
 |_=>false
abbrev VK:=V->List Mod->Prop
def bA8(c a b:V)(K:VK):Prop:=
 match c with
 | .lit (.bool t)=>branch t (force a λv=>K v []) (force b λv=>K v [])
 |_=>False
def unVC(u:UnOp)(x:V)(K:VK):Prop:=
 match u,x with
 | .not, .lit (.bool t)=>K (B (!t)) []
 | .neg, .lit (.int k n)=>arith k (0-n) λm=>K (lC k m) []
 |_,_=>False
def cM6(op:BinOp)(k:IntKind)(a b:Int)(K:VK):Prop:=
 match op with
 | .add=>arith k (a+b) λn=>K (lC k n) []
 | .sub=>arith k (a-b) λn=>K (lC k n) []
 | .mul=>arith k (a*b) λn=>K (lC k n) []
 | .quo=>need (b≠0) (arith k (a.tdiv b) λn=>K (lC k n) [])
 | .rem=>need (b≠0) (K (lC k (a.tmod b)) [])
 | .shr=>need (0<=b) (K (lC k (shrI k a b)) [])
 | .shl=>need (0<=b) (arith k (shlI k a b) λn=>K (lC k n) [])
 | .or=>K (lC k (orI k a b)) []
 | .lss=>K (B (ltB a b)) []
 | .gtr=>K (B (ltB b a)) []
 | .leq=>K (B (leB a b)) []
 | .geq=>K (B (leB b a)) []
 | .eql=>K (B (eqB a b)) []
 | .neq=>K (B (!eqB a b)) []
 |_=>False
def shVC(op:BinOp)(k:IntKind)(a b:Int)(K:VK):Prop:=
 match op with
 | .shr=>need (0<=b) (K (lC k (shrI k a b)) [])
 | .shl=>need (0<=b) (arith k (shlI k a b) λn=>K (lC k n) [])
 |_=>False
def ptrVC(op:BinOp)(kd:Kd)(K:VK):Prop:=
 match op,kd with
 | .eql, .ptr=>K (B false) []
 | .neq, .ptr=>K (B true) []
 |_,_=>False
def cH0(op:BinOp)(a b:ByteArray)(K:VK):Prop:=
 match op with
 | .add=>need (a.size+b.size<=9223372036854775807) (K (.lit (.string (a++b))) [])
 | .eql=>K (B (eqS a b)) []
 | .neq=>K (B (!eqS a b)) []
 | .lss=>K (B (ltS a b)) []
 | .gtr=>K (B (!(ltS a b||eqS a b))) []
 | .leq=>K (B (ltS a b||eqS a b)) []
 | .geq=>K (B (!ltS a b)) []
 |_=>False
def bG1(op:BinOp)(kd:Kd)(a b:Bool)(K:VK):Prop:=
 match op,kd with
 | .eql, .bool=>K (B (eqBB a b)) []
 | .neq, .bool=>K (B (!eqBB a b)) []
 |_,_=>False
def kX(T:Tab)(sub:TypeId->List V->List V->Option Bool)(fs:List (Nat×Nat×Kd×TypeId)):List V->List V->Option Bool:=
 List.rec (motive:=λ_=>List V->List V->Option Bool) (λ_ _=>some true)
  (λf _ ih xs ys=>match f.2.2.1 with
   | .struct=>match Nat.blt f.2.2.2 (T.n f.2.2.2),sub f.2.2.2 (rO (jX xs f.1) f.2.1) (rO (jX ys f.1) f.2.1)with
     |true,some b1=>(ih xs ys).map (andB b1)
     |_,_=>none
   | .array=>match Nat.blt f.2.2.2 (T.n f.2.2.2),sub f.2.2.2 (rO (jX xs f.1) f.2.1) (rO (jX ys f.1) f.2.1)with
     |true,some b1=>(ih xs ys).map (andB b1)
     |_,_=>none
   |kd=>match nth xs f.1,nth ys f.1,kd with
    |some (.lit (.int k a)),some (.lit (.int k' b)), .int _=>cond (decide (k=k')) ((ih xs ys).map (andB (eqB a b))) none
    |some (.lit (.string a)),some (.lit (.string b)), .str=>(ih xs ys).map (andB (eqSB a b))
    |some (.lit (.bool a)),some (.lit (.bool b)), .bool=>(ih xs ys).map (andB (eqBB a b))
    |_,_,_=>none) fs
def aZ5(z:Nat)(kd:Kd)(e:TypeId)(n:Nat):List (Nat×Nat×Kd×TypeId):=Nat.rec (motive:=λ_=>List (Nat×Nat×Kd×TypeId)) [] (λi ih=>appR ih [(i*z,z,kd,e)]) n
def eqT(T:Tab)(n:Nat):TypeId->List V->List V->Option Bool:=
 Nat.rec (motive:=λ_=>TypeId->List V->List V->Option Bool) (λ_ _ _=>none)
  (λ_ ih t xs ys=>cond (T.row t).eq (match(T.row t).kd with
   | .struct=>kX T ih (T.row t).flds xs ys
   | .array=>cond (Nat.blt (T.row t).elem (T.n (T.row t).elem)) (kX T ih (aZ5 (T.row (T.row t).elem).size (T.row (T.row t).elem).kd (T.row t).elem (T.row t).alen) xs ys) none
   |_=>none) none) n
def aL1(T:Tab)(op:BinOp)(t:TypeId)(xs ys:List V)(K:VK):Prop:=
 match op with
 | .eql=>need ((T.row t).eq=true) (match eqT T 4 t xs ys with|some b=>K (B b) [] |none=>False)
 | .neq=>need ((T.row t).eq=true) (match eqT T 4 t xs ys with|some b=>K (B (!b)) [] |none=>False)
 |_=>False
def bD7(T:Tab)(op:BinOp)(t:TypeId)(x y:V)(K:VK):Prop:=
 match x,y with
 | .lit (.int k a), .lit (.int k' b)=>cond (decide (k=k')) (cM6 op k a b K) (shVC op k a b K)
 | .lit (.string a), .lit (.string b)=>cH0 op a b K
 | .lit (.bool a), .lit (.bool b)=>cond (Nat.blt t (T.n t)) (bG1 op (T.row t).kd a b K) False
 | .agg xs, .agg ys=>cond (Nat.blt t (T.n t)) (aL1 T op t xs ys K) False
 | .box _ _, .lit (.pointer none)=>cond (Nat.blt t (T.n t)) (ptrVC op (T.row t).kd K) False
 |_,_=>False
def lM(σ:St)(d:Nat)(cs:List V)(K:VK):Prop:=
 match σ.bx d with
 |none=>bJ cs λcs=>cond (allR V.one cs) (K (.box d 0) [.b d cs]) False
 |some _=>False
def jB(r:Row)(x:V)(f:Nat)(K:VK):Prop:=
 match r.kd,nth r.flds f with
 | .struct,some (o,z,_)=>cond (Nat.beq z 0) False (match x with
   | .box i off=>K (.box i (off+o)) []
   | .fp cs=>bJ (jX cs o) λcs=>K (.fp cs) []
   | .ae k g sz i off=>K (.ae k g sz i (off+o)) []
   |_=>False)
 |_,_=>False
def wB(r:Row)(cs:List V)(K:VK):Prop:=
 match r.agg with
 |true=>bJ (rO cs r.size) λxs=>cond (Nat.beq (lenR xs) r.size) (K (.agg xs) []) False
 |false=>match cs with
  |x::_=>force x λv=>K v []
  | [] =>False
def aM2(T:Tab)(r:Row)(x:V)(f:Nat)(K:VK):Prop:=
 match r.kd,nth r.flds f,x with
 | .struct,some (o,_,_,ty), .agg cs=>cond (Nat.blt ty (T.n ty)) (wB (T.row ty) (jX cs o) K) False
 |_,_,_=>False
def pW(r:Row)(σ:St)(x:V)(K:VK):Prop:=
 match x with
 | .box i off=>match σ.bx i with
   |some cs=>wB r (jX cs off) K
   |none=>False
 | .fp cs=>wB r cs K
 | .ae k g sz i off=>match σ.ar k with
   |some en=>need (en.gen=g/\en.kind≠ .dead) (idx en.l i λx=>cond (Nat.beq (lenR x.cells) sz) (wB r (jX x.cells off) K) False)
   |none=>False
 |_=>False
def aC4(x:V)(cs:List V):V:=
 match x with
 | .agg _=> .agg cs
 |_=>match cs with
  |y::_=>y
  | [] => .bot
def qU(r:Row)(σ:St)(x y:V)(K:VK):Prop:=
 match x with
 | .box i off=>match σ.bx i with
   |some cs=>cond (Nat.beq (lenR y.cells) r.size&&Nat.ble (off+r.size) (lenR cs)&&allR V.one y.cells) (bJ (splice cs off y.cells) λcs=>K .bot [.b i cs]) False
   |none=>False
 | .ae k g sz i off=>match σ.ar k with
   |some en=>need (en.gen=g/\en.kind= .own) (idx en.l i λx=>
    cond (Nat.beq (lenR y.cells) r.size&&Nat.ble (off+r.size) (lenR x.cells)&&Nat.beq (lenR x.cells) sz&&allR V.atom y.cells)
     (bJ (splice x.cells off y.cells) λcs=>K .bot [.a k {en with l:=en.l.set i (aC4 x cs)}]) False)
   |none=>False
 |_=>False
def gI(T:Tab)(r:Row)(σ:St)(x i:V)(K:VK):Prop:=
 match r.kd,i with
 | .slice, .lit (.int _ n)=>match x with
   | .sl l=>need (0<=n/\n<l.length) (idx l n.toNat λx=>bJ x.cells λcs=>cond (Nat.beq (lenR cs) (T.row r.elem).size&&Nat.blt r.elem (T.n r.elem)) (K (.fp cs) []) False)
   | .cap l=>need (0<=n/\n<l.length) (idx l n.toNat λx=>bJ x.cells λcs=>cond (Nat.beq (lenR cs) (T.row r.elem).size&&Nat.blt r.elem (T.n r.elem)) (K (.fp cs) []) False)
   | .arr k g=>match σ.ar k with
     |some en=>need (en.gen=g/\en.kind≠ .dead/\0<=n/\n<en.l.length) (cond (Nat.beq en.ty r.elem&&Nat.blt r.elem (T.n r.elem)) (K (.ae k g (T.row r.elem).size n.toNat 0) []) False)
     |none=>False
   |_=>False
 | .array, .lit (.int _ (.ofNat n))=>match x with
   | .box i off=>cond (Nat.blt n r.alen&&Nat.blt r.elem (T.n r.elem)) (K (.box i (off+n*(T.row r.elem).size)) []) False
   | .fp cs=>cond (Nat.blt n r.alen&&Nat.blt r.elem (T.n r.elem)) (bJ (jX cs (n*(T.row r.elem).size)) λcs=>K (.fp cs) []) False
   |_=>False
 |_,_=>False
def aM6(T:Tab)(r:Row)(x i:V)(K:VK):Prop:=
 match r.kd,x,i with
 | .str, .lit (.string s), .lit (.int _ n)=>need (0<=n/\n<s.size) (K (lC .u8 (byteAt s n.toNat)) [])
 | .array, .agg cs, .lit (.int _ (.ofNat n))=>cond (Nat.blt n r.alen&&Nat.blt r.elem (T.n r.elem)) (wB (T.row r.elem) (jX cs (n*(T.row r.elem).size)) K) False
 |_,_,_=>False
def lF(σ:St)(x:V)(K:List V->Prop):Prop:=
 match x with
 | .sl l=>K l
 | .cap l=>K l
 | .lit (.slice none 0 0)=>K []
 | .arr k g=>match σ.ar k with
   |some en=>need (en.gen=g/\en.kind≠ .dead) (K en.l)
   |none=>False
 |_=>False
def lV(σ:St)(x:V)(K:List V->Prop):Prop:=
 match x with
 | .sl l=>K l
 | .cap l=>K l
 | .lit (.slice none 0 0)=>K []
 | .arr k g=>match σ.ar k with
   |some en=>need (en.gen=g/\en.kind= .frz) (K en.l)
   |none=>False
 |_=>False
def aE9(σ:St)(x:V)(K:VK):Prop:=
 match x with
 | .lit (.slice none 0 0)=>K (lC .i64 0) []
 | .sl l=>K (lC .i64 l.length) []
 | .cap l=>K (lC .i64 l.length) []
 | .arr k g=>match σ.ar k with
   |some en=>need (en.gen=g/\en.kind≠ .dead) (K (lC .i64 en.l.length) [])
   |none=>False
 |_=>False
def aI4(x:V)(K:VK):Prop:=
 match x with
 | .lit (.string s)=>K (lC .i64 s.size) []
 |_=>False
def wZ(x:V)(i:Nat)(K:VK):Prop:=
 match x with
 | .tup cs=>match cs[i]? with
   |some v=>force v λv=>K v []
   |none=>False
 |_=>False
def oI(place:Nat->Option (Nat×Nat))(σ:St)(ps:List (Nat×Operand)):List V->(List V->Prop)->Prop:=
 List.rec (motive:=λ_=>List V->(List V->Prop)->Prop) (λcs K=>bJ cs K)
  (λp _ ih cs K=>match place p.1 with
   |some (o,z)=>cond (Nat.beq (lenR (σ.ev p.2).cells) z&&Nat.ble (o+z) (lenR cs)&&allR V.one (σ.ev p.2).cells) (ih (splice cs o (σ.ev p.2).cells) K) False
   |none=>False) ps
def vO(T:Tab)(r:Row)(σ:St)(ps:List (Nat×Operand))(K:VK):Prop:=
 match r.kd with
 | .struct=>oI (λi=>(nth r.flds i).map λf=>(f.1,f.2.1)) σ ps (mapR .lit r.zero) λcs=>K (.agg cs) []
 | .array=>cond (Nat.blt r.elem (T.n r.elem)) (oI (λi=>some (i*(T.row r.elem).size,(T.row r.elem).size)) σ ps (mapR .lit r.zero) λcs=>K (.agg cs) []) False
 |_=>False
def cD6(agg:Bool)(z:Nat)(cs:List V):V:=match agg with|true=>V.agg (rO cs z)|false=>(match cs with|x::_=>x| [] => .bot)
def chunk(agg:Bool)(z:Nat)(n:Nat):List V->List V:=
 Nat.rec (motive:=λ_=>List V->List V) (λ_=> []) (λ_ ih cs=>cD6 agg z cs::ih (jX cs z)) n
def repR{α:Type}(n:Nat)(l:List α):List α:=Nat.rec (motive:=λ_=>List α) [] (λ_ ih=>appR l ih) n
def iZ(T:Tab)(r:Row)(σ:St)(d:Nat)(n:Nat)(ps:List (Nat×Operand))(K:VK):Prop:=
 match r.kd,σ.ar d with
 | .slice,none=>cond (Nat.blt r.elem (T.n r.elem)&&Nat.ble (n*(T.row r.elem).size) 1000&&Nat.blt 0 (T.row r.elem).size)
  (oI (λi=>some (i*(T.row r.elem).size,(T.row r.elem).size)) σ ps (repR n (mapR .lit (T.row r.elem).zero)) λcs=>
   cond (allR V.atom cs) (K (.arr d 0) [.a d ⟨0, .own,r.elem,chunk (T.row r.elem).agg (T.row r.elem).size n cs⟩]) False) False
 |_,_=>False
def rU(r:Row)(cs:List V):V:=match r.agg with|true=> .agg cs|false=>(match cs with|x::_=>x| [] => .bot)
def jY(T:Tab)(r:Row)(σ:St)(d:Nat)(n c:V)(K:VK):Prop:=
 match r.kd,σ.ar d,n,c with
 | .slice,none, .lit (.int .i64 n), .lit (.int .i64 c)=>
   need (0<=n/\n=c/\c*(T.row r.elem).bytes<=140737488355328/\c<=140737488355328) (cond (Nat.blt r.elem (T.n r.elem)&&Nat.blt 0 (T.row r.elem).size) (K (.arr d 0) [.a d ⟨0, .own,r.elem,List.replicate n.toNat (rU (T.row r.elem) (mapR .lit (T.row r.elem).zero))⟩]) False)
 |_,_,_,_=>False
def capK(l:List V):AK:=match l with| [] => .own|_=> .ap
def strV(s:ByteArray):List V:=s.data.toList.map λb=> .lit (.int .u8 b.toNat)
def contsK(k:Kd)(σ:St)(x:V)(K:List V->Prop):Prop:=
 match k,x with
 | .slice,x=>lF σ x K
 | .str, .lit (.string s)=>K (strV s)
 |_,_=>False
def kT(T:Tab)(r:Row)(k':Kd)(σ:St)(d:Nat)(s x:V)(K:VK):Prop:=
 match r.kd with
 | .slice=>cond (Nat.blt r.elem (T.n r.elem)&&Nat.blt 0 (T.row r.elem).size) (contsK k' σ x λxs=>match s with
   | .lit (.slice none 0 0)=>match σ.ar d with
     |none=>need (xs.length*(T.row r.elem).bytes<=140737488355328/\xs.length<=140737488355328/\∀x∈xs,x.cells.length=(T.row r.elem).size) (K (.arr d 0) [.a d ⟨0, .own,r.elem,xs⟩])
     |some _=>False
   | .cap l=>match σ.ar d with
     |none=>need ((l.length+xs.length)*(T.row r.elem).bytes<=140737488355328/\l.length+xs.length<=140737488355328/\∀x∈l++xs,x.cells.length=(T.row r.elem).size) (K (.arr d 0) [.a d ⟨0,capK l,r.elem,l++xs⟩])
     |some _=>False
   | .arr k g=>match σ.ar k with
     |some en=>need (en.gen=g/\(en.kind= .own\/en.kind= .ap)/\en.ty=r.elem/\(en.l.length+xs.length)*(T.row r.elem).bytes<=140737488355328/\en.l.length+xs.length<=140737488355328/\∀x∈xs,x.cells.length=(T.row r.elem).size)
      (K (.arr k (g+1)) [.a k ⟨g+1,en.kind,r.elem,en.l++xs⟩])
     |none=>False
   |_=>False) False
 |_=>False
def bound(o:Option V)(dflt:Int)(K:Int->Prop):Prop:=
 match o with
 |none=>K dflt
 |some (.lit (.int _ n))=>K n
 |_=>False
def sZ(T:Tab)(r:Row)(σ:St)(x:V)(lo hi mx:Option V)(K:VK):Prop:=
 match r.kd,x with
 | .str, .lit (.string s)=>match mx with
   |none=>bound lo 0 λl=>bound hi s.size λh=>need (0<=l/\l<=h/\h<=s.size) (K (.lit (.string (s.extract l.toNat h.toNat))) [])
   |some _=>False
 | .slice,x=>cond (Nat.blt r.elem (T.n r.elem)) (lV σ x λxs=>bound lo 0 λl=>bound hi xs.length λh=>match mx with
   |none=>need (0<=l/\l<=h/\h<=xs.length/\(l=0\/∀x∈xs,x.cells.length=(T.row r.elem).size)) (K (.sl ((xs.take h.toNat).drop l.toNat)) [])
   |some m=>match hi with
    |none=>False
    |some _=>bound (some m) 0 λm=>need (0<=l/\l<=h/\h<=xs.length/\m=h/\(l=0\/∀x∈xs,x.cells.length=(T.row r.elem).size)) (K (.cap ((xs.take h.toNat).drop l.toNat)) [])) False
 |_,_=>False
def rP(f:Int->Int->Int)(xs:List V)(K:VK):Prop:=
 match xs with
 | [.lit (.int k a), .lit (.int _ b)] =>K (lC k (f a b)) []
 | [.lit (.int k a), .lit (.int _ b), .lit (.int _ c)] =>K (lC k (f (f a b) c)) []
 |_=>False
def bE4(T:Tab)(s t:TypeId)(x:V)(K:VK):Prop:=
 match Nat.blt s (T.n s)&&Nat.blt t (T.n t),(T.row s).kd,(T.row t).kd,x with
 |true, .int _, .int k, .lit (.int _ n)=>arith k n λm=>K (lC k m) []
 |true, .str, .str, .lit (.string b)=>K (.lit (.string b)) []
 |_,_,_,_=>False
structure aZ0(xs:List V)(K:List Int->Prop):Prop where
 out:∃ns:List Int,xs=ns.map (λn=>V.lit (.int .u8 n))/\K ns
def strOf(ns:List Int):ByteArray:=ns.foldl (λr n=>r.push (UInt8.ofNat n.toNat)) ByteArray.empty
def isU8:Kd->Bool
 | .int .u8=>true
 |_=>false
def isStr:Kd->Bool
 | .str=>true
 |_=>false
def dG6(k:Kd):Bool:=match k with| .slice=>true|_=>false
def argsV(caps xs:List V):List V:=
 match caps with
 | .own _ _::cs=>appR cs xs
 |caps=>appR xs caps
def convB(T:Tab)(σ:St)(d:Nat)(s t:TypeId)(x:V)(K:VK):Prop:=
 match σ.ar d,x with
 |none, .lit (.string b)=>cond (Nat.blt s (T.n s)&&Nat.blt t (T.n t)&&dG6 (T.row t).kd&&isU8 (T.row (T.row t).elem).kd&&Nat.blt (T.row t).elem (T.n (T.row t).elem)) (need (b.size<=140737488355328) (K (.arr d 0) [.a d ⟨0, .frz,(T.row t).elem,strV b⟩])) False
 |_,_=>False
def aF1(T:Tab)(σ:St)(d:Nat)(s t:TypeId)(x:V)(K:VK):Prop:=
 match(T.row s).kd with
 | .str=>convB T σ d s t x K
 | .slice=>cond (Nat.blt s (T.n s)&&Nat.blt t (T.n t)&&isStr (T.row t).kd&&isU8 (T.row (T.row s).elem).kd&&Nat.blt (T.row s).elem (T.n (T.row s).elem)) (lF σ x λxs=>aZ0 xs λns=>K (.lit (.string (strOf ns))) []) False
 |_=>bE4 T s t x K
def jG(s:Value):List V->Option V
 | .tup [.lit k,x] ::r=> @ite _ (k=s) (Classical.propDecidable _) (some x) (jG s r)
 |_=>none
structure eG6(es:List V)(s:Value)(z:V)(K:V->Prop):Prop where
 out:K ((jG s es).getD z)
def dY9(k:Kd):Bool:=match k with| .str=>true| .int _=>true|_=>false
def cD3(k:Kd)(s:Value):Bool:=match k with
 | .str=>(match s with| .string _=>true|_=>false)
 | .int k=>(match s with| .int k' _=>decide (k'=k)|_=>false)
 |_=>false
def keyD(k:Kd):TypeDesc:=match k with| .str=> .string| .int k=> .int k|_=> .bool
def bD5(T:Tab)(r:Row):Bool:=(match r.kd with| .map=>true|_=>false)&&dY9 (T.row r.alen).kd&&Nat.blt r.alen (T.n r.alen)&&Nat.blt r.elem (T.n r.elem)&& !(T.row r.elem).agg
def oN(T:Tab)(t:TypeId)(σ:St)(d:Nat)(K:VK):Prop:=
 match σ.ar d with
 |none=>cond (bD5 T (T.row t)) (K (.arr d 0) [.a d ⟨0, .dead,t,[.bot]⟩]) False
 |some _=>False
def rG(T:Tab)(t:TypeId)(σ:St)(x y:V)(K:VK):Prop:=
 match x,y with
 | .arr k g, .lit s=>match σ.ar k with
   |some en=>match en.kind,en.l with
    | .dead, .bot::es=>need (en.gen=g) (cond (bD5 T (T.row t)&&cD3 (T.row (T.row t).alen).kd s&&Nat.beq en.ty t) (match(T.row (T.row t).elem).zero with| [z] =>eG6 es s (.lit z) λv=>K v [] |_=>False) False)
    |_,_=>False
   |none=>False
 | .fn _ cs, .lit s=>match cs with
   | [.ap 0 [], .lit kz, .sl es] =>cond (bD5 T (T.row t)&&cD3 (T.row (T.row t).alen).kd s&&cD3 (T.row (T.row t).alen).kd kz) (match(T.row (T.row t).elem).zero with| [z] =>eG6 es s (.lit z) λv=>K v [] |_=>False) False
   |_=>False
 |_,_=>False
def iE(T:Tab)(t:TypeId)(σ:St)(x y z:V)(K:VK):Prop:=
 match x,y with
 | .arr k g, .lit s=>match σ.ar k with
   |some en=>match en.kind,en.l with
    | .dead, .bot::es=>need (en.gen=g) (cond (bD5 T (T.row t)&&cD3 (T.row (T.row t).alen).kd s&&Nat.beq en.ty t&&z.atom) (K .bot [.a k ⟨en.gen, .dead,en.ty, .bot:: .tup [.lit s,z] ::es⟩]) False)
    |_,_=>False
   |none=>False
 |_,_=>False
def dE6(x:V):Bool:=match x with| .box _ _=>true| .fp _=>true| .ae _ _ _ _ _=>true|_=>false
def opVC(T:Tab)(σ:St)(d:Nat)(o:Op)(K:VK):Prop:=
 match o with
 | .move x=>force (σ.ev x) λv=>K v []
 | .assign x=>force (σ.ev x) λv=>K v []
 | .pick c a b=>bA8 (σ.ev c) (σ.ev a) (σ.ev b) K
 | .unOp u _ x=>unVC u (σ.ev x) K
 | .binOp op t x y _=>bD7 T op t (σ.ev x) (σ.ev y) K
 | .box _ x=>lM σ d (σ.ev x).cells K
 | .alloc t=>cond (Nat.blt t (T.n t)) (lM σ d (mapR .lit (T.row t).zero) K) False
 | .fieldAddr s x f=>cond (Nat.blt s (T.n s)) (jB (T.row s) (σ.ev x) f K) False
 | .field s x f=>cond (Nat.blt s (T.n s)) (aM2 T (T.row s) (σ.ev x) f K) False
 | .load t x=>cond (Nat.blt t (T.n t)) (pW (T.row t) σ (σ.ev x) K) False
 | .store t x y=>cond (Nat.blt t (T.n t)) (qU (T.row t) σ (σ.ev x) (σ.ev y) K) False
 | .indexAddr t x i=>cond (Nat.blt t (T.n t)) (gI T (T.row t) σ (σ.ev x) (σ.ev i) K) False
 | .index t x i=>cond (Nat.blt t (T.n t)) (aM6 T (T.row t) (σ.ev x) (σ.ev i) K) False
 | .extract x i=>wZ (σ.ev x) i K
 | .makeFunc (.func g) ⟨[]⟩ ⟨[]⟩=>K (.fn g []) []
 | .makeFunc (.func g) ⟨x::xs⟩ ⟨[]⟩=>bJ (mapR σ.ev (x::xs)) λxs=>K (.fn g (.own 0 [] ::xs)) []
 | .build t ps=>cond (Nat.blt t (T.n t)) (vO T (T.row t) σ ps.toList K) False
 | .buildSlice t n ps=>cond (Nat.blt t (T.n t)) (iZ T (T.row t) σ d n ps.toList K) False
 | .makeSlice t n c=>cond (Nat.blt t (T.n t)) (jY T (T.row t) σ d (σ.ev n) (σ.ev c) K) False
 | .slice t x lo hi mx=>cond (Nat.blt t (T.n t)) (sZ T (T.row t) σ (σ.ev x) (lo.map σ.ev) (hi.map σ.ev) (mx.map σ.ev) K) False
 | .convert s t x=>aF1 T σ d s t (σ.ev x) K
 | .call ⟨.builtin .len,⟨[x]⟩,⟨[t]⟩⟩=>cond (Nat.blt t (T.n t)) (match(T.row t).kd with| .slice=>aE9 σ (σ.ev x) K| .str=>aI4 (σ.ev x) K|_=>False) False
 | .call ⟨.builtin .append,⟨[s,x]⟩,⟨[t,t']⟩⟩=>cond (Nat.blt t (T.n t)&&Nat.blt t' (T.n t')) (kT T (T.row t) (T.row t').kd σ d (σ.ev s) (σ.ev x) K) False
 | .call ⟨.builtin .max,⟨as⟩,_⟩=>rP maxI (mapR σ.ev as) K
 | .call ⟨.builtin .min,⟨as⟩,_⟩=>rP minI (mapR σ.ev as) K
 | .makeMap t none=>cond (Nat.blt t (T.n t)) (oN T t σ d K) False
 | .lookup t x y false=>cond (Nat.blt t (T.n t)) (rG T t σ (σ.ev x) (σ.ev y) K) False
 | .mapUpdate t x y z=>cond (Nat.blt t (T.n t)) (iE T t σ (σ.ev x) (σ.ev y) (σ.ev z) K) False
 | .insert t x y z=>cond (Nat.blt t (T.n t)) (iE T t σ (σ.ev x) (σ.ev y) (σ.ev z) K) False
 | .nilCheck x=>cond (dE6 (σ.ev x)) (force (σ.ev x) λv=>K v []) False
 |_=>False
inductive Tag where
 |ext|fz|bx (i:Nat)|ar (k:Nat)
structure Gh where
 β:Nat->Nat
 av:Nat->Nat->Value
 O:Nat->Tag
def At(w:World)(a:Addr)(cc:Nat->Value)(xs:List V):Prop:=
 ∀j y,xs[j]? =some y->w.cell? (a.add j)=some (cc j)/\(cc j).oneCell'=true
def litD(s:Value):TypeDesc:=match s with| .string _=> .string| .int k _=> .int k|_=> .bool
inductive Rv(w:World)(G:Gh):Value->V->Prop
 |bot (v:Value):Rv w G v .bot
 |lit (u:Value) (h:u.oneCell'=true):Rv w G u (.lit u)
 |agg (cs:Array Value) (xs:List V) (hl:cs.size=xs.length) (ho:∀c∈cs,c.oneCell'=true)
  (h:∀(i:Nat) c x,cs[i]? =some c->xs[i]? =some x->Rv w G c x):Rv w G (.agg cs) (.agg xs)
 |tup (cs:Array Value) (xs:List V) (hl:cs.size=xs.length)
  (h:∀(i:Nat) c x,cs[i]? =some c->xs[i]? =some x->Rv w G c x):Rv w G (.tuple cs) (.tup xs)
 |slN:Rv w G (.slice none 0 0) (.sl [])
 |slS (a:Addr) (c:Nat) (l:List V) (sz:Nat) (cc:Nat->Value) (hc:l.length<=c) (hm:c<=maxLen)
  (hf:0<l.length->G.O a.block= .fz) (hz:∀x∈l,x.cells.length=sz)
  (hcell:At w a cc (l.flatMap V.cells))
  (h:∀(j:Nat) y,(l.flatMap V.cells)[j]? =some y->Rv w G (cc j) y):Rv w G (.slice (some a) l.length c) (.sl l)
 |capN:Rv w G (.slice none 0 0) (.cap [])
 |capS (a:Addr) (l:List V) (sz:Nat) (cc:Nat->Value) (hm:l.length<=maxLen)
  (hf:0<l.length->G.O a.block= .fz) (hz:∀x∈l,x.cells.length=sz)
  (hcell:At w a cc (l.flatMap V.cells))
  (h:∀(j:Nat) y,(l.flatMap V.cells)[j]? =some y->Rv w G (cc j) y):Rv w G (.slice (some a) l.length l.length) (.cap l)
 |box (i off:Nat):Rv w G (.pointer (some ⟨G.β i,off,none⟩)) (.box i off)
 |arr (k g:Nat) (h:(G.av k g).oneCell'=true):Rv w G (G.av k g) (.arr k g)
 |fp (a:Addr) (cs:List V) (cc:Nat->Value) (hf:cs≠ []->G.O a.block= .fz) (hcell:At w a cc cs)
  (h:∀(j:Nat) y,cs[j]? =some y->Rv w G (cc j) y):Rv w G (.pointer (some a)) (.fp cs)
 |ae (k g sz i off:Nat) (a:Addr) (n c:Nat) (h:G.av k g= .slice (some a) n c):Rv w G (.pointer (some (a.add (i*sz+off)))) (.ae k g sz i off)
 |fn (g:FuncId) (lb:Array Value) (caps:List V) (hl:lb.size=caps.length) (h:∀(i:Nat) c x,lb[i]? =some c->caps[i]? =some x->Rv w G c x):Rv w G (.func (.func g) #[] lb) (.fn g caps)
 |fb (g:FuncId) (fs:Array Value) (caps:List V) (hl:fs.size=caps.length) (h:∀(i:Nat) c x,fs[i]? =some c->caps[i]? =some x->Rv w G c x):Rv w G (.func (.func g) fs #[]) (.fn g (.own 0 [] ::caps))
 |mp (b:Nat) (ents:Array MapEntry) (clock:Nat) (g:FuncId) (kz:Value) (es:List V) (val:Value->Value) (hO:G.O b= .fz) (hw:w.heap[b]? =some (.map ents clock)) (hk:∀e∈ents.toList,MapKept.IsKey (litD kz) e.key)
  (hn:∀s,MapKept.IsKey (litD kz) s->jG s es=none->Instr.findNow (litD kz) s ents.toList 0=some none)
  (hs:∀s x,MapKept.IsKey (litD kz) s->jG s es=some x->(∃i,Instr.findNow (litD kz) s ents.toList 0=some (some (i,val s)))/\(val s).oneCell'=true)
  (h:∀s x,MapKept.IsKey (litD kz) s->jG s es=some x->Rv w G (val s) x):Rv w G (.map (some b)) (.fn g [.ap 0 [], .lit kz, .sl es])
mutual
def V.ok(p:Nat->Prop)(q:Nat->Nat->Prop):V->Prop
 | .box i _=>p i
 | .arr k g=>q k g
 | .ae k g _ _ _=>q k g
 | .agg cs=>V.okL p q cs
 | .tup cs=>V.okL p q cs
 | .sl l=>V.okL (λ_=>False) (λ_ _=>False) l
 | .cap l=>V.okL (λ_=>False) (λ_ _=>False) l
 | .fp l=>V.okL (λ_=>False) (λ_ _=>False) l
 | .fn _ l=>V.okL p q l
 | .own _ l=>V.okL (λ_=>False) (λ_ _=>False) l
 | .ap _ l=>V.okL (λ_=>False) (λ_ _=>False) l
 | .bot=>True
 | .lit _=>True
def V.okL(p:Nat->Prop)(q:Nat->Nat->Prop):List V->Prop
 | [] =>True
 |x::r=>V.ok p q x/\V.okL p q r
end
abbrev V.pure(x:V):Prop:=x.ok (λ_=>False) (λ_ _=>False)
abbrev bM(l:List V):Prop:=V.okL (λ_=>False) (λ_ _=>False) l
theorem aH:V.okL p q l↔∀x∈l,x.ok p q:=by
 induction l<;>simp_all [V.okL]
mutual
theorem V.ok.imp{p p':Nat->Prop}{q a:Nat->Nat->Prop}(hp:∀i,p i->p' i)(hq:∀k g,q k g->a k g):(x:V)->x.ok p q->x.ok p' a
 | .box i _,h=>by simp only[V.ok]at h⊢;exact hp _ h
 | .arr k g,h=>Hl
 | .ae k g _ _ _,h=>Hl
 | .agg cs,h=>EY
 | .tup cs,h=>EY
 | .sl l,h=>Ba
 | .cap l,h=>Ba
 | .fp l,h=>Ba
 | .fn _ l,h=>by simp only[V.ok]at h⊢;exact V.okL.imp hp hq l h
 | .own _ l,h=>Ba
 | .ap _ l,h=>Ba
 | .bot,_=>BN
 | .lit _,_=>BN
theorem V.okL.imp{p p':Nat->Prop}{q c:Nat->Nat->Prop}(a:∀i,p i->p' i)(b:∀k g,q k g->c k g):(l:List V)->V.okL p q l->V.okL p' c l
 | [],_=>Cc
 |x::r,h=>by simp only[V.okL]at h⊢;exact⟨V.ok.imp a b x h.1,V.okL.imp a b r h.2⟩
end
theorem V.pure.ok{x:V}(h:x.pure) p q:x.ok p q:=V.ok.imp (λ_ h=>h.elim) (λ_ _ h=>h.elim) x h
def assoc_pure:∀ {es},bM es->jG s es=some x->x.pure
 | [],_,h=>Ah
 |y::r,a,h=>by
  unfold jG at h;split at h;rename_i e;cases e;simp only[bM,V.okL,V.ok,UJ]at a;split at h;cases h;exact a.1.2;exact assoc_pure a.2 h;cases h
structure Keep(w w':World)(G G':Gh):Prop where
 fz:∀b,G.O b= .fz->G'.O b= .fz
 heap:∀b,G.O b= .fz->w'.heap[b]? =w.heap[b]?
def Keep.refl w G:Keep w w G G:=⟨λ_ h=>h,λ_ _=>rfl⟩
def At.keep(k:Keep w w' G G')(h:At w a cc xs)(e:xs≠ []->G.O a.block= .fz):At w' a cc xs:=by
 intro j y c;have d:(a.add j).block=a.block:=Gj;have b:xs≠ [] :=by rintro rfl;simp at c
 refine⟨?_,(h j y c).2⟩;rw[<-(h j y c).1];exact UU (by rw[d];exact k.heap _ (e b))
def dF1{l:List V}(h:l.flatMap V.cells≠ []):0<l.length:=by
 grind
def dF(h:bM l){j:Nat}(e:(l.flatMap V.cells)[j]? =some y):y.pure:=by
 have c:=QZ e;let⟨x,d,a⟩:=UR.1 c;have b:=aH.1 h x d;cases x with
 |agg cs=>
  have:V.okL (λ_=>False) (λ_ _=>False) cs:=by simpa only[V.pure,V.ok]using b
  exact aH.1 this y a
 |_=>simp[V.cells,Ri]at a;subst a;exact b
def Rv.keep(k:Keep w w' G G')(h:Rv w G v x):
 ∀ {p} {q},x.ok p q->(∀i,p i->G'.β i=G.β i)->(∀k g,q k g->G'.av k g=G.av k g)->Rv w' G' v x:=by
 induction h with
 |bot v=>intros;exact .bot v
 |lit u h=>intros;exact .lit u h
 |agg cs xs E P _ r=>
  intro p q d o m;exact .agg cs xs E P λi c x A z=>r i c x A z (aH.1 d x (QZ z)) o m
 |tup cs xs E _ r=>
  intro p q d o m;exact .tup cs xs E λi c x A z=>r i c x A z (aH.1 d x (QZ z)) o m
 |slN=>intros;exact .slN
 |slS a c l sz cc A I B J f _ r=>
  intro p q d o m;simp[V.ok]at d
  exact .slS a c l sz cc A I (λh=>k.fz _ (B h)) J (f.keep k λh=>B (dF1 h)) λj y C=>
   r j y C (dF d C) (λ_ h=>h.elim) (λ_ _ h=>h.elim)
 |capN=>intros;exact .capN
 |capS a l sz cc I B J f _ r=>
  intro p q d o m;simp[V.ok]at d
  exact .capS a l sz cc I (λh=>k.fz _ (B h)) J (f.keep k λh=>B (dF1 h)) λj y C=>
   r j y C (dF d C) (λ_ h=>h.elim) (λ_ _ h=>h.elim)
 |box i off=>
  intro p q d o m;have:=o i d;rw[<-this];exact .box i off
 |arr k g h=>
  intro p q d o m;have e:=m k g d;rw[<-e]at h⊢;exact .arr k g h
 |fp a cs cc B f _ r=>
  intro p q d o m;exact .fp a cs cc (λh=>k.fz _ (B h)) (f.keep k B) λj y C=>r j y C (aH.1 d y (QZ C)) (λ_ h=>h.elim) (λ_ _ h=>h.elim)
 |ae k g sz i off a n c h=>
  intro p q d o m;exact .ae k g sz i off a n c ((m k g d).trans h)
 |fn g T t E _ r=>
  intro p q d o m;exact .fn g T t E λi c x A z=>r i c x A z (aH.1 d x (QZ z)) o m
 |fb g M t E _ r=>
  intro p q d o m;exact .fb g M t E λi c x A z=>r i c x A z (aH.1 d.2 x (QZ z)) o m
 |mp b F D g S es val L R H O Q _ r=>
  intro p q d o m;exact .mp b F D g S es val (k.fz _ L) ((k.heap _ L).trans R) H O Q λs x N K=>r s x N K (assoc_pure d.2.2.1 K) (λ_ h=>h.elim) (λ_ _ h=>h.elim)
structure RvL(w:World)(G:Gh)(vs:List Value)(xs:List V):Prop where
 len:vs.length=xs.length
 one:∀v∈vs,v.oneCell'=true
 rel:∀(i:Nat) v x,vs[i]? =some v->xs[i]? =some x->Rv w G v x
def RvL.keep(k:Keep w w' G G')(h:RvL w G vs xs)(a:V.okL p q xs)
 (c:∀i,p i->G'.β i=G.β i)(d:∀k g,q k g->G'.av k g=G.av k g):RvL w' G' vs xs:=
 ⟨h.len,h.one,λi v x hv b=>(h.rel i v x hv b).keep k (aH.1 a x (QZ b)) c d⟩
structure Fr where
 w0:World
 given:Nat->Prop
 F0:Nat->Prop
 n:Nat
 arg:Nat->Option Value
 argb:Nat->Option Nat:=λ_=>none
 ds:List Deferred:=[]
 keep:Nat->Option Value:=λ_=>none
def Fr.wr(Φ:Fr)(d:Nat):Prop:=d<Φ.n/\Φ.keep d=none
def Fr.mine(Φ:Fr)(b:Nat):Prop:=Φ.w0.heap.size<=b\/Φ.given b
def Nil0(u:Value):Prop:=u= .slice none 0 0\/∃a,u= .slice (some a) 0 0
theorem bA2(h:Nil0 u):Rv w G u (.sl []):=by
 rcases h with rfl|⟨a,rfl⟩;exact .slN;exact .slS a 0 [] 0 (λ_=>undef) (Rf _) (RY _) (λh=>absurd h Ad) (λx h=>Ah) (λj y h=>HY) (λj y h=>HY)
def aP2(h:Nil0 u):u.oneCell'=true:=by
 rcases h with rfl|⟨a,rfl⟩<;>rfl
def gJ(T:Tab)(w:World)(G:Gh)(k:Nat)(u:Value)(ty:TypeId)(l:List V):Prop:=
 (Nil0 u/\l=[])\/
 ∃b cap cur,u= .slice (some ⟨b,0,none⟩) l.length cap/\G.O b= .ar k/\w.heap[b]? =some (.cells cur ty (0,0))/\l.length<=cap/\cap<=maxLen/\cur.size=cap*(T.row ty).size/\
  (∀x∈l,x.cells.length=(T.row ty).size)/\RvL w G (cur.toList.take (l.length*(T.row ty).size)) (l.flatMap V.cells)
def bL6(d:TypeDesc)(w:World)(G:Gh)(k:Nat)(u:Value)(es:List V):Prop:=
 ∃b ents clock,u= .map (some b)/\G.O b= .ar k/\w.heap[b]? =some (.map ents clock)/\(∀e∈ents.toList,MapKept.IsKey d e.key)/\
  ∀s,MapKept.IsKey d s->match jG s es with
   |some x=>∃i v,Instr.findNow d s ents.toList 0=some (some (i,v))/\v.oneCell'=true/\Rv w G v x/\x.pure
   |none=>Instr.findNow d s ents.toList 0=some none
def gW(T:Tab)(w:World)(G:Gh)(k:Nat)(en:AE):Prop:=
 match en.kind with
 | .dead=>match en.l with
   | [] =>True
   |_::es=>bL6 (keyD (T.row (T.row en.ty).alen).kd) w G k (G.av k en.gen) es
 | .frz=>Rv w G (G.av k en.gen) (.sl en.l)
 | .own=>en.ty<T.n en.ty/\gJ T w G k (G.av k en.gen) en.ty en.l
 | .ap=>en.ty<T.n en.ty/\(gJ T w G k (G.av k en.gen) en.ty en.l\/(Rv w G (G.av k en.gen) (.cap en.l)/\∀x∈en.l,x.cells.length=(T.row en.ty).size))
def St.hasB(σ:St)(i:Nat):Prop:=∃cs,σ.bx i=some cs
def St.hasA(σ:St)(k g:Nat):Prop:=∃en,σ.ar k=some en/\g<=en.gen
structure Inv(T:Tab)(Φ:Fr)(σ:St)(a:Act)(w:World)(G:Gh):Prop where
 nd:a.defers=Φ.ds
 kp:∀s v,Φ.keep s=some v->a.tmps.getD s undef=v
 sz:a.tmps.size=Φ.n
 env:∀s,Rv w G (a.tmps.getD s undef) (σ.env s)
 wfE:∀s,(σ.env s).ok σ.hasB σ.hasA
 box:∀i cs,σ.bx i=some cs->∃c t,w.heap[G.β i]? =some (.cells c t (0,0))/\RvL w G c.toList cs/\G.O (G.β i)= .bx i
 wfB:∀i cs,σ.bx i=some cs->V.okL σ.hasB σ.hasA cs
 arr:∀k en,σ.ar k=some en->gW T w G k en
 wfA:∀k en,σ.ar k=some en->bM en.l
 tag:∀b,G.O b≠ .ext->b<w.heap.size
 mineB:∀b i,G.O b= .bx i->Φ.mine b
 mineA:∀b k,G.O b= .ar k->Φ.mine b
 fzm:∀b,G.O b= .fz->Φ.F0 b\/Φ.mine b
 F0:∀b,Φ.F0 b->G.O b= .fz
 frame:∀b,b<Φ.w0.heap.size->¬Φ.given b->w.heap[b]? =Φ.w0.heap[b]?
 size:Φ.w0.heap.size<=w.heap.size
 os:w.os=Φ.w0.os
 tape:w.tape=Φ.w0.tape
 output:w.output=Φ.w0.output
 args:∀j v,Φ.arg j=some v->G.av j 0=v/\j<8/\∃en,σ.ar j=some en
 lay:T.lay Φ.w0 Φ.F0/\∀b,Φ.F0 b->b<Φ.w0.heap.size/\¬Φ.given b
 argb:∀i b,Φ.argb i=some b->G.β i=b/\(100000<=i/\i<100008)/\∃cs,σ.bx i=some cs
@[irreducible] def Le(T:Tab)(σ σ':St):Prop:=∀Φ a w G,Inv T Φ σ a w G->∃G',Inv T Φ σ' a w G'
def Rb(T:Tab)(w:World)(G:Gh)(j:Nat)(v:Value)(y:V):Prop:=
 match y with
 | .own e l=>e<T.n e/\bM l/\gJ T w G j v e l
 | .ap e l=>e<T.n e/\bM l/\(gJ T w G j v e l\/(Rv w G v (.cap l)/\∀x∈l,x.cells.length=(T.row e).size))
 |y=>y.pure/\Rv w G v y
def Rr(T:Tab)(w:World)(G:Gh)(v:Value)(r:V):Prop:=
 match r with
 | .tup (.bot::rs)=>∃vs:Array Value,v= .agg vs/\vs.size=rs.length/\(∀c∈vs,c.oneCell'=true)/\∀(j:Nat) u y,vs[j]? =some u->rs[j]? =some y->Rb T w G j u y
 | .tup rs=>∃vs:Array Value,v= .tuple vs/\vs.size=rs.length/\∀(j:Nat) u y,vs[j]? =some u->rs[j]? =some y->Rb T w G j u y
 |r=>Rb T w G 0 v r
def callable(P:Program)(f:FuncId):Bool:=
 match P.funcs[f]? with
 |some fn=>fn.body.isSome&&fn.name != "runtime.NumGoroutine"
 |none=>false
def dY8(T:Tab)(P:Program)(f:FuncId)(ys:List V)(r:V)(X:Value->Array Value->World->Gh->Prop):Prop:=
 callable P f=true/\∀(w:World) (G:Gh) (cs:Array Value),cs.size=ys.length->(∀b,G.O b≠ .ext->b<w.heap.size)->(∀b i,G.O b≠ .bx i)->
  (∀(j:Nat) v y,cs[j]? =some v->ys[j]? =some y->Rb T w G j v y)->T.lay w (λb=>G.O b= .fz)->
  Calls P f cs w λe w'=>∃v G',e= .returned v/\(Rr T w' G' v r/\X v cs w' G')/\
   (∀b,G.O b= .fz->G'.O b= .fz)/\(∀b,G'.O b≠ .ext->b<w'.heap.size)/\(∀b i,G'.O b≠ .bx i)/\
   (∀b,G'.O b≠ .ext->(G.O b= .fz/\G'.O b= .fz)\/w.heap.size<=b\/∃j,G.O b= .ar j)/\
   (∀b,b<w.heap.size->(∀j,G.O b≠ .ar j)->w'.heap[b]? =w.heap[b]?)/\
   w.heap.size<=w'.heap.size/\w'.os=w.os/\w'.tape=w.tape/\w'.output=w.output
def Spec(T:Tab)(P:Program)(f:FuncId)(ys:List V)(r:V):Prop:=dY8 T P f ys r λ_ _ _ _=>True
def IoX(T:Tab)(j:Nat)(e:TypeId)(l:List V)(cs:Array Value)(w:World)(G:Gh):Prop:=bM l/\∃t,gJ T w G t (cs.getD j undef) e l
def bE5(T:Tab)(P:Program)(f:FuncId)(ys:List V)(r:V)(j:Nat)(e:TypeId)(l:List V):Prop:=dY8 T P f ys r (λ_=>IoX T j e l)
def RbB(T:Tab)(w:World)(G:Gh)(n j:Nat)(v:Value)(y:V):Prop:=
 match y with
 | .own e l=>e<T.n e/\bM l/\gJ T w G j v e l
 | .ap e l=>e<T.n e/\bM l/\(gJ T w G j v e l\/(Rv w G v (.cap l)/\∀x∈l,x.cells.length=(T.row e).size))
 |y=>y.ok (λi=>100000<=i/\i<100000+n) (λ_ _=>False)/\Rv w G v y
def RrB(T:Tab)(w:World)(G:Gh)(n:Nat)(v:Value)(r:V):Prop:=
 match r with
 | .tup rs=>∃vs:Array Value,v= .tuple vs/\vs.size=rs.length/\∀(j:Nat) u y,vs[j]? =some u->rs[j]? =some y->RbB T w G n j u y
 |r=>RbB T w G n 0 v r
def BxOk(T:Tab)(w:World)(G:Gh)(bs:List (List V)):Prop:=
 ∀i b,bs[i]? =some b->G.O (G.β (100000+i))= .bx (100000+i)/\∃c t,w.heap[G.β (100000+i)]? =some (.cells c t (0,0))/\c.size=b.length/\
  ∀(q:Nat) v y,c[q]? =some v->b[q]? =some y->v.oneCell'=true/\RbB T w G bs.length (100000*(i+1)+q) v y
def SpecG(T:Tab)(P:Program)(f:FuncId)(ys:List V)(bs bs':List (List V))(X:Value->Array Value->World->Gh->Prop):Prop:=
 callable P f=true/\bs'.map List.length=bs.map List.length/\∀(w:World) (G:Gh) (cs:Array Value),cs.size=ys.length->(∀b,G.O b≠ .ext->b<w.heap.size)->
  (∀b i,G.O b= .bx i->100000<=i/\i<100000+bs.length/\b=G.β i)->BxOk T w G bs->
  (∀(j:Nat) v y,cs[j]? =some v->ys[j]? =some y->RbB T w G bs.length j v y)->T.lay w (λb=>G.O b= .fz)->
  Calls P f cs w λe w'=>∃v G',e= .returned v/\X v cs w' G'/\BxOk T w' G' bs'/\(∀i,i<bs.length->G'.β (100000+i)=G.β (100000+i))/\(∀b i,G'.O b= .bx i->100000<=i/\i<100000+bs.length/\b=G'.β i)/\
   (∀b,G.O b= .fz->G'.O b= .fz)/\(∀b,G'.O b≠ .ext->b<w'.heap.size)/\
   (∀b,G'.O b≠ .ext->(G.O b= .fz/\G'.O b= .fz)\/w.heap.size<=b\/(∃j,G.O b= .ar j)\/(∃i,G.O b= .bx i/\G'.O b= .bx i))/\
   (∀b,b<w.heap.size->(∀j,G.O b≠ .ar j)->(∀i,G.O b≠ .bx i)->w'.heap[b]? =w.heap[b]?)/\
   w.heap.size<=w'.heap.size/\w'.os=w.os/\w'.tape=w.tape/\w'.output=w.output
def aU2(T:Tab)(P:Program)(f:FuncId)(ys:List V)(bs:List (List V))(r:V)(bs':List (List V)):Prop:=SpecG T P f ys bs bs' λv _ w G=>RrB T w G bs.length v r
def rb_of(h:RbB T w G 0 j v y):Rb T w G j v y:=by
 unfold RbB at h;unfold Rb;split;exact h;exact h;split at h;simp_all;simp_all;exact⟨V.ok.imp (λi h=>Aa) (λ_ _ h=>h) _ h.1,h.2⟩
theorem dQ1(h:Rb T w G j v y):RbB T w G n j v y:=by
 unfold Rb at h;unfold RbB;split;exact h;exact h;rename_i a b;split at h;exact(a _ _ rfl).elim;exact(b _ _ rfl).elim;exact⟨V.pure.ok h.1 _ _,h.2⟩
theorem dY8.g:dY8 T P f ys r X↔SpecG T P f ys [] [] λv cs w G=>Rr T w G v r/\X v cs w G:=by
 constructor;rintro⟨o,h⟩;refine⟨o,rfl,λw G cs s t a _ u x=>(h w G cs s t (λb i hb=>by have:=a b i hb;simp[Tc]at this;omega) (λj v y A B=>rb_of (u j v y A B)) x).mono ?_⟩;rintro e w' ⟨v,G',rfl,z,c,d,k,l,m,n⟩;exact⟨v,G',rfl,z,(λi b hb=>I8),(λi hi=>absurd hi (Nat.not_lt_zero _)),(λb i hb=>(k b i hb).elim),c,d,(λb hb=>by have:=l b hb;simp_all),(λb hb q _=>m b hb q),n⟩;rintro⟨o,_,h⟩;refine⟨o,λw G cs s t a u x=>(h w G cs s t (λb i hb=>(a b i hb).elim) (λi b hb=>I8) (λj v y A B=>dQ1 (u j v y A B)) x).mono ?_⟩;rintro e w' ⟨v,G',rfl,z,_,_,k,c,d,l,m,n⟩;refine⟨v,G',rfl,z,c,d,(λb i hb=>by have:=k b i hb;simp[Tc]at this;omega),(λb hb=>?_),(λb hb q=>m b hb q (a b)),n⟩;rcases l b hb with q|q|q|⟨i,q,_⟩;exact .inl q;exact .inr (.inl q);exact .inr (.inr q);exact(a b i q).elim
def FW(ro:Option Nat):Fence:={Fence.wide with round:=ro}
structure xN(w W W':World)(G G':Gh):Prop where
 keep:Keep W W' G G'
 size:W.heap.size<=W'.heap.size
 own:∀b,w.heap.size<=b->b<W.heap.size->G.O b= .ext->W'.heap[b]? =W.heap[b]? /\G'.O b= .ext
 tag:∀b,G'.O b≠ .ext->b<W'.heap.size
 os:W'.os=W.os
 tape:W'.tape=W.tape
 output:W'.output=W.output
def aB0(T:Tab)(P:Program)(g:FuncId)(caps:List V)(items:List (List V)):Prop:=
 callable P g=true/\∀(w:World) (G:Gh) (lb:Array Value) (l:Nat),lb.size=caps.length->(∀b,G.O b≠ .ext->b<w.heap.size)->
  (∀(j:Nat) v y,lb[j]? =some v->caps[j]? =some y->y.pure/\Rv w G v y)->T.lay w (λb=>G.O b= .fz)->
  ∀(J:Nat->World->Gh->Prop) (X:World->Gh->Prop),
   (∀k W W' G',J k W G'->W.heap.size<=W'.heap.size->(∀b,b<W.heap.size->(G'.O b≠ .ext\/b<w.heap.size)->W'.heap[b]? =W.heap[b]?)->W'.os=W.os->W'.tape=W.tape->W'.output=W.output->J k W' G')->
   (∀W W' G',X W G'->W.heap.size<=W'.heap.size->(∀b,b<W.heap.size->(G'.O b≠ .ext\/b<w.heap.size)->W'.heap[b]? =W.heap[b]?)->W'.os=W.os->W'.tape=W.tape->W'.output=W.output->X W' G')->
   (∀k W G' G'',J k W G'->G''.β=G'.β->G''.av=G'.av->(∀b,G''.O b=G'.O b\/(w.heap.size<=b/\b<W.heap.size/\G'.O b= .ext/\G''.O b= .fz))->J k W G'')->
   (∀k W G' vs it,J k W G'->items[k]? =some it->vs.size=it.length->(∀(j:Nat) v y,vs[j]? =some v->it[j]? =some y->y.pure/\Rv W G' v y)->
    YieldAt (FW none) 0 P l vs W λe W'=>(e= .returned (.bool true)/\∃G2,J (k+1) W' G2/\xN w W W' G' G2)\/(e= .returned (.bool false)/\∃G2,X W' G2/\xN w W W' G' G2))->
   J 0 w G->CallsIn (FW none) 0 P g (#[.func (.yield l) #[] #[]] ++lb) w λe W'=>(∃v,e= .returned v)/\((∃G',J items.length W' G')\/∃G',X W' G')
def yH(ar:Nat->Option AE)(x y:V):Prop:=
 match y with
 | .sl l=>match x with
   | .sl l'=>l'=l
   | .cap l'=>l'=l
   | .lit (.slice none 0 0)=>l=[]
   | .arr k g=>match ar k with
     |some en=>en.gen=g/\en.kind≠ .dead/\en.l=l
     |none=>False
   |_=>False
 | .cap l=>match x with
   | .cap l'=>l'=l
   | .lit (.slice none 0 0)=>l=[]
   |_=>False
 | .lit u=>match x with
   | .lit u'=>u'=u
   |_=>False
 | .fp l=>match x with
   | .fp l'=>l'=l
   |_=>False
 | .fn g l=>match x with
   | .fn g' l'=>g'=g/\l'=l/\(V.fn g l).atom=true
   |_=>False
 |_=>False
def cN9(ar:Nat->Option AE)(ys:List V):List V->Prop:=
 List.rec (motive:=λ_=>List V->Prop) (λxs=>match xs with| [] =>True|_::_=>False)
  (λy _ ih xs=>match xs with|x::xr=>yH ar x y/\ih xr| [] =>False) ys
def wU(T:Tab)(ar:Nat->Option AE)(x y:V):Prop:=
 match y with
 | .own e l=>match x with
   | .lit (.slice none 0 0)=>e<T.n e/\l=[]
   | .arr k g=>match ar k with
     |some en=>en.gen=g/\en.kind= .own/\en.ty=e/\en.l=l
     |none=>False
   |_=>False
 | .ap e l=>match x with
   | .lit (.slice none 0 0)=>e<T.n e/\l=[]
   | .cap l'=>e<T.n e/\(∀x∈l',x.cells.length=(T.row e).size)/\l'=l
   | .arr k g=>match ar k with
     |some en=>en.gen=g/\(en.kind= .own\/en.kind= .ap)/\en.ty=e/\en.l=l
     |none=>False
   |_=>False
 | .agg ys=>match x with
   | .agg xs=>cN9 ar ys xs
   |_=>False
 |y=>yH ar x y
def iQ(T:Tab)(ar:Nat->Option AE)(ys:List V):List V->Prop:=
 List.rec (motive:=λ_=>List V->Prop) (λxs=>match xs with| [] =>True|_::_=>False)
  (λy _ ih xs=>match xs with|x::xr=>wU T ar x y/\ih xr| [] =>False) ys
def akey(x:V):List Nat:=match x with| .arr k _=> [k] |_=> []
def jQ(x:V):List Nat:=
 match x with
 | .arr k _=> [k]
 | .agg cs=>List.rec (motive:=λ_=>List Nat) [] (λx _ ih=>appR (akey x) ih) cs
 |_=> []
def linear(y:V):Bool:=match y with| .own _ _=>true| .ap _ _=>true|_=>false
def bD(ys:List V):List V->List Nat:=
 List.rec (motive:=λ_=>List V->List Nat) (λ_=> []) (λy _ ih xs=>match xs with|x::xr=>appR (cond (linear y) (jQ x) []) (ih xr)| [] => []) ys
def bK(ys:List V):List V->List Nat:=
 List.rec (motive:=λ_=>List V->List Nat) (λ_=> []) (λy _ ih xs=>match xs with|x::xr=>appR (cond (linear y) [] (jQ x)) (ih xr)| [] => []) ys
def memR(k:Nat)(l:List Nat):Bool:=List.rec (motive:=λ_=>Bool) false (λx _ ih=>cond (Nat.beq k x) true ih) l
def aE7(l:List Nat):Bool:=List.rec (motive:=λ_=>Bool) true (λx r ih=>cond (memR x r) false ih) l
def bR6(x:V):Bool:=match x with| .lit _=>true|_=>false
def sS(x:V):Bool:=match x with| .lit _=>true| .agg cs=>allR bR6 cs|_=>false
def aH7(x:V):Bool:=match x with| .lit _=>true| .agg cs=>allR bR6 cs| .tup cs=>allR sS cs|_=>false
def iR(xs ys:List V):Bool:=aE7 (bD ys xs)&&allR (λk=> !memR k (bK ys xs)) (bD ys xs)
def aX(σ:St)(ks:List Nat):List Mod:=
 List.rec (motive:=λ_=>List Mod) [] (λk _ ih=>match σ.ar k with|some en=> .a k ⟨en.gen, .dead,en.ty,[]⟩::ih|none=>ih) ks
def aV(σ:St)(ks:List Nat):List Mod:=
 List.rec (motive:=λ_=>List Mod) [] (λk _ ih=>match σ.ar k with
  |some en=>match en.kind with
   | .own=> .a k ⟨en.gen, .frz,en.ty,en.l⟩::ih
   | .ap=> .a k ⟨en.gen, .frz,en.ty,en.l⟩::ih
   | .frz=>ih
   | .dead=>match en.l with| [] =>ih|_::_=> .a k ⟨en.gen, .dead,en.ty,[]⟩::ih
  |none=>ih) ks
def reuse(σ:St)(ks:List Nat):Option (Nat×Nat):=
 match ks with
 |k::_=>match σ.ar k with
  |some en=>some (k,en.gen+1)
  |none=>none
 | [] =>none
def uF(σ:St)(d:Nat)(rs:List V):Nat->Option (Nat×Nat)->(List V->List Mod->Prop)->Prop:=
 List.rec (motive:=λ_=>Nat->Option (Nat×Nat)->(List V->List Mod->Prop)->Prop) (λ_ _ K=>K [] [])
  (λy _ ih j ro K=>match y with
   | .own e l=>match ro with
     |some (k,g)=>ih (j+1) none λvs ms=>K (.arr k g::vs) (.a k ⟨g, .own,e,l⟩::ms)
     |none=>match σ.ar (d+1000*j)with
      |none=>ih (j+1) none λvs ms=>K (.arr (d+1000*j) 0::vs) (.a (d+1000*j) ⟨0, .own,e,l⟩::ms)
      |some _=>False
   | .ap e l=>match ro with
     |some (k,g)=>ih (j+1) none λvs ms=>K (.arr k g::vs) (.a k ⟨g, .ap,e,l⟩::ms)
     |none=>match σ.ar (d+1000*j)with
      |none=>ih (j+1) none λvs ms=>K (.arr (d+1000*j) 0::vs) (.a (d+1000*j) ⟨0, .ap,e,l⟩::ms)
      |some _=>False
   |y=>force y λy=>ih (j+1) ro λvs ms=>K (y::vs) ms) rs
def zZ(σ:St)(d:Nat)(ro:Option (Nat×Nat))(r:V)(K:VK):Prop:=
 match r with
 | .tup (.bot::rs)=>uF σ d rs 0 ro λvs ms=>K (.agg vs) ms
 | .tup rs=>uF σ d rs 0 ro λvs ms=>K (.tup vs) ms
 |r=>uF σ d [r] 0 ro λvs ms=>match vs with|v::_=>K v ms| [] =>False
def sO(light lend:Bool)(xs ys:List V)(r:V):Bool:=
 iR xs ys&&Nat.ble (lenR (bD ys xs)) 1&& (cond lend (aH7 r) true)&& (cond light (Nat.beq (lenR (bD ys xs)) 0&& (lend||Nat.beq (lenR (bK ys xs)) 0)) true)
def bU9(is:List Nat)(x y:V):Prop:=
 match y with
 | .box b off=>match x with
   | .box i off'=>nth is (Nat.sub b 100000)=some i/\Nat.ble 100000 b=true/\off'=off
   |_=>False
 | .fp l=>match x with| .fp l'=>l'=l|_=>False
 | .lit u=>match x with| .lit u'=>u'=u|_=>False
 | .own e l=>match x with| .own e' l'=>e'=e/\l'=l|_=>False
 |_=>False
def refL(is:List Nat)(ys:List V):List V->Prop:=
 List.rec (motive:=λ_=>List V->Prop) (λxs=>match xs with| [] =>True|_::_=>False)
  (λy _ ih xs=>match xs with|x::xr=>bU9 is x y/\ih xr| [] =>False) ys
def aP8(T:Tab)(ar:Nat->Option AE)(is:List Nat)(x y:V):Prop:=
 match y with
 | .bot=>True
 | .box b off=>bU9 is x (.box b off)
 | .fn g ys=>match x with| .fn g' xs=>cond (isMapC ys) (g'=g/\xs=ys) (g'=g/\refL is ys xs)|_=>False
 |y=>wU T ar x y
def bI2(T:Tab)(ar:Nat->Option AE)(is:List Nat)(ys:List V):List V->Prop:=
 List.rec (motive:=λ_=>List V->Prop) (λxs=>match xs with| [] =>True|_::_=>False)
  (λy _ ih xs=>match xs with|x::xr=>aP8 T ar is x y/\ih xr| [] =>False) ys
def eU(bx:Nat->Option (List V))(bs:List (List V)):List Nat->List (List V×List V):=
 List.rec (motive:=λ_=>List Nat->List (List V×List V)) (λ_=> []) (λb _ ih is=>match is with
  |i::ir=>(match bx i with|some cs=>cs|none=> [],b)::ih ir
  | [] => []) bs
def xM(T:Tab)(ar:Nat->Option AE)(is:List Nat)(gs:List (List V×List V)):Prop:=
 List.rec (motive:=λ_=>Prop) True (λg _ ih=>bI2 T ar is g.2 g.1/\ih) gs
def ownG(gs:List (List V×List V)):List Nat:=List.rec (motive:=λ_=>List Nat) [] (λg _ ih=>appR (bD g.2 g.1) ih) gs
def mF(gs:List (List V×List V)):List Nat:=List.rec (motive:=λ_=>List Nat) [] (λg _ ih=>appR (bK g.2 g.1) ih) gs
def V.ren(f:Nat->Nat)(x:V):V:=
 V.rec (motive_1:=λ_=>V) (motive_2:=λ_=>List V)
   .bot (λu=> .lit u) (λ_ ih=> .agg ih) (λ_ ih=> .tup ih) (λl _=> .sl l) (λl _=> .cap l) (λe l _=> .own e l) (λe l _=> .ap e l)
   (λj off=> .box (f j) off) (λk g=> .arr k g) (λl _=> .fp l) (λk g z i o=> .ae k g z i o) (λg _ ih=> .fn g ih)
   [] (λ_ _ ih1 ih2=>ih1::ih2) x
def nthD(is:List Nat)(n:Nat):Nat:=match nth is n with|some i=>i|none=>0
def renF(is:List Nat)(b:Nat):Nat:=nthD is (Nat.sub b 100000)
def xO(ar:Nat->Option AE)(ok:List Nat)(N:Nat)(kd:AK)(e:TypeId)(l:List V)(x:V)(K:V->Mod->Prop):Prop:=
 match x with
 | .arr k _=>match memR k ok with
   |true=>match ar k with
    |some en=>K (.arr k (en.gen+1)) (.a k ⟨en.gen+1,kd,e,l⟩)
    |none=>False
   |false=>match ar N with
    |none=>K (.arr N 0) (.a N ⟨0,kd,e,l⟩)
    |some _=>False
 |_=>match ar N with
  |none=>K (.arr N 0) (.a N ⟨0,kd,e,l⟩)
  |some _=>False
def oJ(ar:Nat->Option AE)(is ok:List Nat)(ys:List V):List V->Nat->(List V->List Mod->Prop)->Prop:=
 List.rec (motive:=λ_=>List V->Nat->(List V->List Mod->Prop)->Prop) (λxs _ K=>match xs with| [] =>K [] [] |_::_=>False)
  (λy _ ih xs N K=>match xs with
   | [] =>False
   |x::xr=>match y with
    | .own e l=>xO ar ok N .own e l x λv m=>ih xr (N+1000) λvs ms=>K (v::vs) (m::ms)
    | .ap e l=>xO ar ok N .ap e l x λv m=>ih xr (N+1000) λvs ms=>K (v::vs) (m::ms)
    |y=>force (y.ren (renF is)) λv=>ih xr (N+1000) λvs ms=>K (v::vs) ms) ys
def aB3(bx:Nat->Option (List V))(ar:Nat->Option AE)(is0 ok:List Nat)(bs:List (List V)):List Nat->Nat->(List Mod->Prop)->Prop:=
 List.rec (motive:=λ_=>List Nat->Nat->(List Mod->Prop)->Prop) (λis _ K=>match is with| [] =>K [] |_::_=>False)
  (λb _ ih is N K=>match is with
   | [] =>False
   |i::ir=>match bx i with
    |some cs=>oJ ar is0 ok b cs N λvs ms=>ih ir (N+1000000) λns=>K (appR ms (.b i vs::ns))
    |none=>False) bs
def dB5(is ok:List Nat):V:=match is with| [] =>(match ok with|k::_=> .arr k 0| [] => .bot)|_::_=> .bot
def aX2(bx:Nat->Option (List V))(ar:Nat->Option AE)(is ok:List Nat)(d:Nat)(r:V)(bs:List (List V))(K:VK):Prop:=
 match r with
 | .tup rs=>oJ ar is ok rs (mapR (λ_=> .bot) rs) d λvs ms=>aB3 bx ar is ok bs is (d+1000000) λns=>K (.tup vs) (appR ms ns)
 |r=>oJ ar is ok [r] [dB5 is ok] d λvs ms=>match vs with
  |v::_=>aB3 bx ar is ok bs is (d+1000000) λns=>K v (appR ms ns)
  | [] =>False
def isS{α:Type}(o:Option α):Bool:=match o with|some _=>true|none=>false
def zA(bx:Nat->Option (List V))(gs:List (List V×List V))(is:List Nat)(bs:List (List V))(r:V):Bool:=
 aE7 (ownG gs)&&allR (λk=> !memR k (mF gs)) (ownG gs)&&aE7 is&&Nat.beq (lenR is) (lenR bs)&&allR (λi=>isS (bx i)) is&&allR (λb=>Nat.blt (lenR b) 1000) bs&&Nat.ble (lenR is) 8&&
  (match r with| .tup rs=>Nat.blt (lenR rs) 1000|_=>true)
inductive Md where
 |free
 |drawn (hv:List (Nat×List Nat))
def Md.light:Md->Bool
 | .free=>false
 | .drawn _=>true
def hvOf(hv:List (Nat×List Nat))(d:Nat):Option (List Nat):=List.rec (motive:=λ_=>Option (List Nat)) none (λp _ ih=>cond (Nat.beq d p.1) (some p.2) ih) hv
def Md.may(m:Md)(d:Nat)(is:List Nat)(gs:List (List V×List V)):Bool:=
 match m with
 | .free=>true
 | .drawn hv=>match hvOf hv d with
   |some bl=>memR 88888 bl||(allR (λi=>memR i bl) is&&Nat.beq (lenR (ownG gs)) 0&&Nat.beq (lenR (mF gs)) 0)
   |none=>false
structure kY(T:Tab)(P:Program)(light:Md)(σ:St)(d:Nat)(f:FuncId)(xs:List V)(K:VK):Prop where
 out:(∃(ys:List V) (r:V) (lend:Bool),iQ T σ.ar ys xs/\sO light.light lend xs ys r=true/\Spec T P f ys r/\
  zZ σ d (reuse σ (bD ys xs)) r λv ms=>K v (appR (cond lend [] (aV σ (bK ys xs))) (appR (aX σ (bD ys xs)) ms)))\/
  (light= .free/\∃(ys:List V) (r:V) (j k g:Nat) (e:TypeId) (l l':List V),iQ T σ.ar ys xs/\sO false false xs ys r=true/\bE5 T P f ys r j e l'/\
   ys[j]? =some (.own e l)/\xs[j]? =some (.arr k g)/\aH7 r=true/\
   K r (appR (aV σ (bK ys xs)) (appR (aX σ (bD ys xs)) [.a k ⟨g, .own,e,l'⟩])))\/
  (∃(ys:List V) (is:List Nat) (bs:List (List V)) (r:V) (bs':List (List V)),light.may d is ((xs,ys)::eU σ.bx bs is)=true/\xM T σ.ar is ((xs,ys)::eU σ.bx bs is)/\zA σ.bx ((xs,ys)::eU σ.bx bs is) is bs r=true/\aU2 T P f ys bs r bs'/\
   aX2 σ.bx σ.ar is (ownG ((xs,ys)::eU σ.bx bs is)) d r bs' λv ms=>K v (appR (aV σ (mF ((xs,ys)::eU σ.bx bs is))) (appR (aX σ (ownG ((xs,ys)::eU σ.bx bs is))) ms)))
def nilB(bop:BinOp)(b:Bool):Bool:=match bop with| .eql=>b|_=> !b
structure bV3(T:Tab)(bop:BinOp)(t:TypeId)(c:Value)(l:List V)(K:VK):Prop where
 c0:c= .slice none 0 0
 ty:t<T.n t
 kd:(T.row t).kd= .slice
 op:bop= .eql\/bop= .neq
 out:∀b:Bool,(l≠ []->b=false)->K (B (nilB bop b)) []
def bW(T:Tab)(P:Program)(light:Md)(σ:St)(d:Nat)(op:Op)(K:VK):Prop:=
 match op with
 | .call ⟨.value (.func f),⟨as⟩,_⟩=>bJ (mapR σ.ev as) λxs=>kY T P light σ d f xs K
 | .call ⟨.value (.tmp t),⟨as⟩,_⟩=>match σ.env t with
   | .fn g caps=>cond (isFnC caps) (bJ (mapR σ.ev as) λxs=>kY T P light σ d g (argsV caps xs) K) False
   |_=>False
 | .slice t (.tmp x) lo hi mx=>match light,σ.env x with
   | .free, .arr k _=>match σ.ar k with
     |some ⟨gen, .own,ty,l⟩=>opVC T (σ.apps [.a k ⟨gen, .frz,ty,l⟩]) d (.slice t (.tmp x) lo hi mx) λv ms=>K v (.a k ⟨gen, .frz,ty,l⟩::ms)
     |some ⟨gen, .ap,ty,l⟩=>opVC T (σ.apps [.a k ⟨gen, .frz,ty,l⟩]) d (.slice t (.tmp x) lo hi mx) λv ms=>K v (.a k ⟨gen, .frz,ty,l⟩::ms)
     |_=>opVC T σ d (.slice t (.tmp x) lo hi mx) K
   |_,_=>opVC T σ d (.slice t (.tmp x) lo hi mx) K
 | .binOp bop t (.tmp x) (.const c) t'=>match light,σ.env x with
   | .free, .sl l=>bV3 T bop t c l K
   |_,_=>opVC T σ d (.binOp bop t (.tmp x) (.const c) t') K
 |op=>opVC T σ d op K
abbrev OpsK:=(Nat->V)->(Nat->Option (List V))->(Nat->Option AE)->(St->Prop)->Prop
def dZ7(ms:List Mod):(env:Nat->V)->(bx:Nat->Option (List V))->(ar:Nat->Option AE)->(K:(Nat->V)->(Nat->Option (List V))->(Nat->Option AE)->Prop)->Prop:=
 List.rec (motive:=λ_=>(env:Nat->V)->(bx:Nat->Option (List V))->(ar:Nat->Option AE)->(K:(Nat->V)->(Nat->Option (List V))->(Nat->Option AE)->Prop)->Prop)
  (λenv bx ar K=>K env bx ar)
  (λm _ ih env bx ar K=>match m with
   | .b i cs=>ih env (upd bx i (some cs)) ar K
   | .a k en=>ih env bx (upd ar k (some en)) K) ms
def tV(ops:List Oper)(j:Nat):Option Nat:=(nth ops j).bind (·.dst)
def aV2(T:Tab)(P:Program)(light:Md)(n:Nat)(dst:Option Nat)(op:Op)(ih:OpsK):OpsK:=λenv bx ar K=>
 match dst with
 |some d=>cond (Nat.blt d n) (bW T P light ⟨env,bx,ar⟩ d op λv ms=>dZ7 ms env bx ar λenv bx ar=>ih (upd env d v) bx ar K) False
 |none=>bW T P light ⟨env,bx,ar⟩ n op λ_ ms=>dZ7 ms env bx ar λenv bx ar=>ih env bx ar K
def zX(rf:Bool)(ar:Nat->Option AE)(xs:List Operand):(Nat->V)->(Nat->Option (List V))->((Nat->V)->(Nat->Option (List V))->List V->Prop)->Prop:=
 List.rec (motive:=λ_=>(Nat->V)->(Nat->Option (List V))->((Nat->V)->(Nat->Option (List V))->List V->Prop)->Prop) (λenv bx K=>K env bx [])
  (λc _ ih env bx K=>match St.ev ⟨env,bx,ar⟩ c with
   | .box i off=>match off,bx i with
     |0,some cells=>match rf with
      |true=>ih env bx λenv bx caps=>K env bx (.box i 0::caps)
      |false=>bJ cells λcells=>cond (allR V.atom cells&&Nat.blt i 100000) (ih (λs=>(env s).frz i cells) (frzB i cells bx) λenv bx caps=>K env bx (.fp cells::caps)) False
     |_,_=>False
   | .fp cs=>ih env bx λenv bx caps=>K env bx (.fp cs::caps)
   |_=>False) xs
structure cR5(T:Tab)(σ:St)(K:St->Prop):Prop where
 out:∃σ',Le T σ σ'/\K σ'
def dB2(T:Tab)(P:Program)(light:Md)(n:Nat)(dst:Option Nat)(op:Op)(ih:OpsK):OpsK:=λenv bx ar K=>
 match op with
 | .makeFunc (.func g) ⟨[]⟩ ⟨c::cs⟩=>match light,dst with
   | .free,some d=>cond (Nat.blt d n) (zX (T.ref g) ar (c::cs) env bx λenv bx caps=>ih (upd env d (.fn g caps)) bx ar K) False
   |_,_=>False
 | .buildSlice t m ps=>match light with
   | .free=>cond (allR (λp=>allR V.atom (St.ev ⟨env,bx,ar⟩ p.2).cells) ps.toList) (aV2 T P light n dst (.buildSlice t m ps) ih env bx ar K)
     (cR5 T ⟨env,bx,ar⟩ λσ'=>aV2 T P light n dst (.buildSlice t m ps) ih σ'.env σ'.bx σ'.ar K)
   |_=>aV2 T P light n dst (.buildSlice t m ps) ih env bx ar K
 |op=>aV2 T P light n dst op ih env bx ar K
def bF6(n:Nat)(dst:Option Nat)(ih:OpsK):OpsK:=λenv bx ar K=>
 match dst with
 |some d=>cond (Nat.blt d n) (ih (upd env d (.tup [])) bx ar K) False
 |none=>ih env bx ar K
def bH0(T:Tab)(P:Program)(light:Md)(n:Nat)(ops:List Oper)(o:Oper)(ih:OpsK):OpsK:=λenv bx ar K=>
 match o with
 |⟨dst,op,_,_,_,guard⟩=>
  match guard with
  |none=>dB2 T P light n dst op ih env bx ar K
  |some (j,want)=>
   match tV ops j with
   |some s=>match env s with
    | .lit (.bool b)=>
      branch b
       (cond want (aV2 T P light n dst op ih (upd env s (B true)) bx ar K) (bF6 n dst ih (upd env s (B true)) bx ar K))
       (cond want (bF6 n dst ih (upd env s (B false)) bx ar K) (aV2 T P light n dst op ih (upd env s (B false)) bx ar K))
    | .tup _=>bF6 n dst ih env bx ar K
    |_=>False
   |none=>False
def aY0(T:Tab)(P:Program)(light:Md)(n:Nat)(ops l:List Oper):OpsK:=
 List.rec (motive:=λ_=>OpsK) (λenv bx ar K=>K ⟨env,bx,ar⟩) (λo _ ih=>bH0 T P light n ops o ih) l
def cls:Op->Nat
 | .move _=>0
 | .nilCheck _=>0
 | .assign _=>0
 | .pick _ _ _=>0
 | .unOp _ _ _=>0
 | .binOp _ _ _ _ _=>0
 | .fieldAddr _ _ _=>0
 | .field _ _ _=>0
 | .extract _ _=>0
 | .makeFunc (.func _) ⟨[]⟩ ⟨[]⟩=>0
 | .build _ _=>0
 | .convert _ _ _=>2
 | .index _ _ _=>0
 | .call ⟨.builtin .max,_,_⟩=>0
 | .call ⟨.builtin .min,_,_⟩=>0
 | .box _ _=>1
 | .alloc _=>1
 | .buildSlice _ _ _=>1
 | .makeSlice _ _ _=>1
 | .load _ _=>2
 | .indexAddr _ _ _=>2
 | .lookup _ _ _ false=>2
 | .slice _ _ _ _ _=>2
 | .call ⟨.builtin .len,_,_⟩=>2
 | .call ⟨.value (.func _),_,_⟩=>3
 | .call ⟨.value (.tmp _),_,_⟩=>3
 | .store _ _ _=>4
 | .call ⟨.builtin .append,_,_⟩=>4
 |_=>5
def clash(a b:Nat):Bool:=(Nat.ble 4 a&&Nat.ble 2 b)||(Nat.ble 4 b&&Nat.ble 2 a)||Nat.ble 5 a||Nat.ble 5 b
def bW4(ms:List Nat)(o:Oper):Nat:=o.after.foldl (λm e=>if Region.binds .any e then m|||2^e.on|||ms.getD e.on 0 else m) 0
def masks(ops:List Oper):List Nat:=ops.foldl (λms o=>ms++[bW4 ms o]) []
def claim(cl:List (Nat×Nat))(u:Nat):Option Nat:=(cl.find? λq=>Nat.beq q.1 u).map (·.2)
def zO(cl:List (Nat×Nat))(x:Operand)(i:Nat):Bool:=
 match x with
 | .tmp u=>match claim cl u with|some j=>Nat.beq i j|none=>false
 | .const _=>true
 |_=>false
def aL7(T:Tab)(cl:List (Nat×Nat))(o:Oper):Bool:=
 match o.dst with
 |none=>true
 |some d=>match claim cl d with
  |none=>true
  |some i=>match o.op with
   | .fieldAddr _ x _=>zO cl x i
   | .indexAddr t x _=>zO cl x i||(Nat.beq i 77777&&dG6 (T.row t).kd)
   | .move x=>zO cl x i
   | .nilCheck x=>zO cl x i
   | .alloc _=>Nat.beq d i
   | .box _ _=>Nat.beq d i
   | .binOp .rem _ _ _ _=>true
   |_=>false
def sepO(cl:List (Nat×Nat))(i:Nat)(o:Op):Bool:=
 match o with
 | .store _ (.tmp u') _=>match claim cl u' with|some j=> !Nat.beq i j|none=>false
 | .call ⟨.builtin .append,_,_⟩=>true
 |_=>false
def isApp(o:Op):Bool:=match o with| .call ⟨.builtin .append,_,_⟩=>true|_=>false
def aM7(cl:List (Nat×Nat))(p o:Op):Bool:=
 match p with
 | .load _ (.tmp u)=>match claim cl u with
   |some i=> !Nat.beq i 77777&&sepO cl i o
   |none=>false
 | .indexAddr _ (.tmp u) x=>match claim cl u with
   |some i=> !Nat.beq i 77777&& (zO cl x i&&sepO cl i o)
   |none=>false
 | .slice _ _ _ _ _=>isApp o
 | .call ⟨.builtin .len,⟨[.tmp u]⟩,_⟩=>match claim cl u with
   |some i=> !Nat.beq i 77777&&sepO cl i o
   |none=>false
 |_=>false
def aG7(o:Op):Bool:=match o with| .call ⟨.value _,_,_⟩=>true|_=>false
def hvO(hv:List (Nat×List Nat))(o:Oper):Bool:=aG7 o.op&& (match o.dst with|some d=>isS (hvOf hv d)|none=> !hv.isEmpty)
def clsH(hv:List (Nat×List Nat))(o:Oper):Nat:=cond (hvO hv o) 5 (cls o.op)
def aI5(cl:List (Nat×Nat))(bl:List Nat)(o:Op):Bool:=
 match o with
 | .load _ (.tmp u)=>match claim cl u with|some i=> !Nat.beq i 77777&& !bl.contains i|none=>false
 | .fieldAddr _ _ _=>true
 | .move _=>true
 | .nilCheck _=>true
 |_=>false
def aI7(o:Op):Bool:=
 match o with
 | .fieldAddr _ _ _=>true
 | .move _=>true
 | .nilCheck _=>true
 |_=>false
def blOf(hv:List (Nat×List Nat))(o:Oper):Option (List Nat):=
 match aG7 o.op,o.dst with
 |true,some d=>match hvOf hv d with
  |some bl=>cond (memR 88888 bl) none (some bl)
  |none=>none
 |_,_=>none
def dJ2(cl:List (Nat×Nat))(hv:List (Nat×List Nat))(p o:Oper):Bool:=
 ((match blOf hv o with|some bl=>aI5 cl bl p.op|none=>false)||(match blOf hv p with|some bl=>aI5 cl bl o.op|none=>false))||(aI7 p.op||aI7 o.op)
def fL7(cl:List (Nat×Nat))(p o:Op):Bool:=
 isApp p&& (match o with| .slice _ _ _ _ _=>true| .load _ _=>cl.any λq=> !Nat.beq q.2 77777&&o.operands.all λx=>zO cl x q.2| .indexAddr _ _ _=>cl.any λq=> !Nat.beq q.2 77777&&o.operands.all λx=>zO cl x q.2| .call ⟨.builtin .len,_,_⟩=>cl.any λq=> !Nat.beq q.2 77777&&o.operands.all λx=>zO cl x q.2|_=>false)
def fY1(p o:Op):Bool:=
 match p,o with
 | .indexAddr _ _ _, .store _ _ _=>true
 | .store _ _ _, .indexAddr _ _ _=>true
 |_,_=>false
def oO(T:Tab)(cl:List (Nat×Nat))(hv:List (Nat×List Nat))(ops:List Oper):Bool:=
 let ms:=masks ops
 ops.all (aL7 T cl)&&ops.zipIdx.all λ(o,k)=>o.after.all (λe=> !Region.binds .any e||decide (e.on<k))&& !(o.op matches .select _ _)&&
  (ops.take k).zipIdx.all λ(p,i)=>(ms.getD k 0).testBit i||(Oper.apart ops.toArray p o&&Oper.apart ops.toArray o p&& (!clash (clsH hv p) (clsH hv o)||((aM7 cl p.op o.op||fL7 cl p.op o.op||fY1 p.op o.op)&& !hvO hv p&& !hvO hv o)||dJ2 cl hv p o))
def cP6(T:Tab)(ops:List Oper):Bool:=oO T [] [] ops
def okB(i:Nat)(v:V):Prop:=
 match v with
 | .box j _=>j=i
 | .bot=>True
 | .tup [] =>True
 | .lit _=>True
 | .sl _=>True
 | .cap _=>True
 | .fp _=>True
 | .arr _ _=>i=77777
 | .ae _ _ _ _ _=>i=77777
 |_=>False
def cO4(cl:List (Nat×Nat))(env:Nat->V):Prop:=List.rec (motive:=λ_=>Prop) True (λq _ ih=>okB q.2 (env q.1)/\ih) cl
abbrev aA2:=St->(Exit->St->Prop)->Prop
def ofL{α:Type}(d:α)(l:List (Nat×α)):Nat->α:=
 List.rec (motive:=λ_=>Nat->α) (λ_=>d) (λp _ ih s=>cond (Nat.beq s p.1) p.2 (ih s)) l
def ofO{α:Type}(l:List (Nat×α)):Nat->Option α:=
 List.rec (motive:=λ_=>Nat->Option α) (λ_=>none) (λp _ ih s=>cond (Nat.beq s p.1) (some p.2) (ih s)) l
def mkSt(e:List (Nat×V))(b:List (Nat×List V))(r:List (Nat×AE)):St:=⟨ofL .bot e,ofO b,ofO r⟩
structure Ann where
 A:Type
 st:A->St
 inv:A->Prop
 m:A->Nat
structure dG2(T:Tab)(x y:aA2)(σ:St)(Q:Exit->St->Prop):Prop where
 out:(x σ λe σ'=>match e with
  | .normal=>y σ' Q
  |e=>Q e σ')\/
 ∃C:Ann,(x σ λe σ'=>match e with
  | .normal=>∃p,Le T σ' (C.st p)/\C.inv p
  |e=>Q e σ')/\∀p,C.inv p->y (C.st p) Q
structure bI0(T:Tab)(x:aA2)(σ:St)(Q:Exit->St->Prop):Prop where
 out:∃L:Ann,(∃p,Le T σ (L.st p)/\L.inv p)/\∀p,L.inv p->x (L.st p) λe σ'=>match e with
  | .normal=>∃p',Le T σ' (L.st p')/\L.inv p'/\L.m p'<L.m p
  |e=>Q e σ'
structure aC9(T:Tab)(env:Nat->V)(ops:List Oper)(K:List (Nat×List Nat)->Prop):Prop where
 out:∃cl hv,cO4 cl env/\oO T cl hv ops=true/\K hv
def dG4(l:List Oper):List Nat:=List.rec (motive:=λ_=>List Nat) [] (λo _ ih=>match o.dst with|some d=>d::ih|none=>ih) l
def dstsOf(c:Code):List Nat:=
 Code.rec (motive:=λ_=>List Nat) [] (λ_ ops _=>dG4 ops.toList) (λ_ _ a b=>appR a b) (λ_ _ _ a b=>appR a b) (λ_ _ a=>a) (λ_ a=>a)
  (λ_ ps _ _ a b=>appR ps.toList (appR a b)) (λ_=> []) (λ_ a=>a) (λ_=> []) (λ_=> []) [] (λ_=> []) c
def iC(c:Code):Bool:=
 Code.rec (motive:=λ_=>Bool) true (λ_ _ _=>true) (λ_ _ a b=>cond a b false) (λ_ _ _ a b=>cond a b false) (λ_ _ a=>a) (λ_ a=>a)
  (λ_ _ _ _ _ _=>false) (λ_=>true) (λ_ a=>a) (λ_=>true) (λ_=>false) true (λ_=>false) c
def sJ(wr:List Nat)(σ:St):St:=⟨λs=>cond (memR s wr) .bot (σ.env s),σ.bx,σ.ar⟩
def cM2(ps:List Nat):List V->(Nat->V)->Nat->V:=
 List.rec (motive:=λ_=>List V->(Nat->V)->Nat->V) (λ_ env=>env) (λp _ ih vs env=>match vs with|v::r=>ih r (upd env p v)| [] =>env) ps
structure aO0(T:Tab)(P:Program)(f:Operand)(g:FuncId)(caps:List V)(ps wr:List Nat)(x y:aA2)(σ:St)(Q:Exit->St->Prop):Prop where
 out:∃items:List (List V),aB0 T P g caps items/\(∀it∈items,it.length=ps.length)/\∃(A:Type) (st:A->St) (inv:Nat->A->Prop),
  (∃p,Le T σ (st p)/\inv 0 p/\(st p).ev f= .fn g caps)/\
  (∀k p it,inv k p->items[k]? =some it->x ⟨cM2 ps it (st p).env,(st p).bx,(st p).ar⟩ λe σ1=>match e with
   | .normal=>y σ1 λe σ2=>match e with
     | .normal=>∃p',Le T (sJ wr σ2) (st p')/\inv (k+1) p'
     | .ret=>Q .ret (sJ wr σ2)
     | .exit i=>Q (.exit i) (sJ wr σ2)
     |_=>False
   |_=>False)/\
  ∀p,inv items.length p->Q .normal (st p)
def nH(T:Tab)(P:Program)(n:Nat)(c:Code):aA2:=
 Code.rec (motive:=λ_=>aA2)
  (λσ Q=>Q .normal σ)
  (λ_ ops draw σ Q=>match σ with|⟨env,bx,ar⟩=>match draw with
   |true=>aC9 T env ops.toList (λhv=>aY0 T P (.drawn hv) n ops.toList ops.toList env bx ar (Q .normal))
   |false=>aY0 T P .free n ops.toList ops.toList env bx ar (Q .normal))
  (λ_ _ iha ihb=>dG2 T iha ihb)
  (λc _ _ iht ihe σ Q=>match σ.ev c with
   | .lit (.bool b)=>branch b (iht σ Q) (ihe σ Q)
   |_=>False)
  (λid _ ih σ Q=>ih σ λe σ'=>match e with
   | .exit i=>cond (Nat.beq i id) (Q .normal σ') (Q (.exit i) σ')
   |e=>Q e σ')
  (λ_ ih=>bI0 T ih)
  (λf ps x y ihx ihy σ Q=>match σ.ev f with
   | .fn g caps=>cond (allR V.still caps) (cond (iC x) (cond (iC y) (cond (allR (λp=>Nat.blt p n) ps.toList) (aO0 T P f g caps ps.toList (appR ps.toList (appR (dstsOf x) (dstsOf y))) ihx ihy σ Q) False) False) False) False
   |_=>False)
  (λid σ Q=>Q (.exit id) σ)
  (λ_ ih σ Q=>ih σ λe σ'=>match e with
   | .goto _=>False
   |e=>Q e σ')
  (λ_ σ Q=>Q .normal σ)
  (λ_ _ _=>False)
  (λσ Q=>Q .ret σ)
  (λ_ _ _=>False) c
def pF(ys:List V):Nat->Nat->V:=
 List.rec (motive:=λ_=>Nat->Nat->V) (λ_ _=> .tup []) (λy _ ih j s=>cond (Nat.beq s j) (cond (linear y) (.arr j 0) y) (ih (j+1) s)) ys
def jK(ys:List V):Nat->Nat->Option AE:=
 List.rec (motive:=λ_=>Nat->Nat->Option AE) (λ_ _=>none) (λy _ ih j s=>cond (Nat.beq s j) (match y with
  | .own e l=>some ⟨0, .own,e,l⟩
  | .ap e l=>some ⟨0, .ap,e,l⟩
  |_=>none) (ih (j+1) s)) ys
def uD(ys:List V):St:=⟨pF ys 0,λ_=>none,jK ys 0⟩
def aH3(T:Tab)(σ:St)(rs:List ResultVar):(List V->Prop)->Prop:=
 List.rec (motive:=λ_=>(List V->Prop)->Prop) (λK=>K [])
  (λx _ ih K=>match x with
   | .tmp t=>force (σ.env t) λv=>ih λvs=>K (v::vs)
   | .cell a t=>cond (Nat.blt t (T.n t)) (pW (T.row t) σ (σ.env a) λv _=>ih λvs=>K (v::vs)) False) rs
structure dF3(T:Tab)(σ:St)(rs:List ResultVar)(r:V):Prop where
 out:(aH3 T σ rs λxs=>match xs with
  | [x] =>iQ T σ.ar [r] [x]/\iR [x] [r] =true/\(∀rs,r≠ .tup rs)
  |xs=>∃ys,r= .tup ys/\iQ T σ.ar ys xs/\iR xs ys=true)\/
  aH3 T σ rs λxs=>match xs with
  | [x] =>∃ys cs,r= .tup (.bot::ys)/\x= .agg cs/\iQ T σ.ar ys cs/\iR cs ys=true
  |_=>False
structure dC6(T:Tab)(σ:St)(rs:List ResultVar)(r:V)(j:Nat)(e:TypeId)(l:List V):Prop where
 out:aH3 T σ rs λxs=>match xs with
  | [x] =>iQ T σ.ar [r, .own e l] [x, .arr j 0]/\iR [x, .arr j 0] [r, .own e l] =true/\aH7 r=true/\(∀rs,r≠ .tup rs)
  |xs=>∃ys,r= .tup ys/\iQ T σ.ar (appR ys [.own e l]) (appR xs [.arr j 0])/\iR (appR xs [.arr j 0]) (appR ys [.own e l])=true
def fnIO(T:Tab)(P:Program)(fn:Func)(ys:List V)(r:V)(j:Nat)(e:TypeId)(l:List V):Prop:=
 match fn.body with
 |some c=>nH T P fn.ntmps c (uD ys) λex σ=>match ex with
  | .normal=>dC6 T σ fn.results.toList r j e l
  | .ret=>dC6 T σ fn.results.toList r j e l
  |_=>False
 |none=>False
def fnVC(T:Tab)(P:Program)(fn:Func)(ys:List V)(r:V):Prop:=
 match fn.body with
 |some c=>nH T P fn.ntmps c (uD ys) λe σ=>match e with
  | .normal=>dF3 T σ fn.results.toList r
  | .ret=>dF3 T σ fn.results.toList r
  |_=>False
 |none=>False
def kdOf:Option TypeDesc->Kd
 |some .bool=> .bool
 |some (.int k)=> .int k
 |some .string=> .str
 |some (.slice _)=> .slice
 |some (.struct _)=> .struct
 |some (.array _ _)=> .array
 |some (.map _ _)=> .map
 |some (.pointer _)=> .ptr
 |_=> .other
def zeroOf(P:Program)(t:TypeId):Option Value:=(P.info? t).bind (·.zero)
def vI(P:Program)(t:TypeId):Nat:=((P.info? t).map (·.size)).getD 0
def aggB:Option TypeDesc->Bool
 |some (.struct _)=>true
 |some (.array _ _)=>true
 |_=>false
def mkRow(P:Program)(t:TypeId):Row:=
 {size:=vI P t
  bytes:=((P.info? t).map (·.bytes)).getD 0
  agg:=aggB (P.underlying t)
  kd:=kdOf (P.underlying t)
  elem:=match P.underlying t with|some (.slice e)=>e|some (.array _ e)=>e|some (.map _ e)=>e|_=>0
  alen:=match P.underlying t with|some (.array n _)=>n|some (.map k _)=>k|_=>0
  flds:=match P.underlying t with|some (.struct fs)=>fs.toList.map (λf=>(f.offset,vI P f.type,kdOf (P.underlying f.type),f.type))|_=> []
  zero:=((zeroOf P t).map (·.cells.toList)).getD []
  eq:= !(P.stoodInHeld t)&& !(P.eqGuardType P.depth t)&& (match P.underlying t with|some (.struct fs)=>fs.toList.all (λf=>f.name != "_")|some (.array _ _)=>true|_=>false)}
def cU3:Value->Bool
 | .agg _=>true
 |_=>false
def rowB(P:Program)(t:TypeId):Bool:=
 (P.info? t).isSome&& (P.underlying t).isSome&& (match zeroOf P t with
   |some z=>z.cells.toList.all Value.oneCell'&&z.cells.size==vI P t&&cU3 z==aggB (P.underlying t)
   |none=>false)&&
 (match P.underlying t with|some (.struct fs)=>fs.toList.all (λf=>(P.info? f.type).isSome)|_=>true)
structure aH9(P:Program)(t:TypeId)(r:Row):Prop where
 eqs:r.eq=true->P.stoodInHeld t=false/\P.eqGuardType P.depth t=false/\∀fs,P.underlying t=some (.struct fs)->∀f∈fs,f.name≠ "_"
 info:∃i,P.info? t=some i/\i.size=r.size/\i.bytes=r.bytes/\∃z,i.zero=some z/\z.cells.toList=r.zero/\(∀c∈r.zero,c.oneCell'=true)/\r.zero.length=r.size/\(r.agg=true->∃cs,z= .agg cs)/\(r.agg=false->r.zero=[z])
 und:∃d,P.underlying t=some d/\r.kd=kdOf (some d)/\r.agg=aggB (some d)/\(∀e,d= .slice e->r.elem=e)/\(∀n e,d= .array n e->r.elem=e/\r.alen=n)/\(∀k e,d= .map k e->r.elem=e/\r.alen=k)/\
  (∀fs,d= .struct fs->r.flds=fs.toList.map (λf=>(f.offset,vI P f.type,kdOf (P.underlying f.type),f.type))/\∀f∈fs,∃i,P.info? f.type=some i/\i.size=vI P f.type)
def eJ9{P:Program}{t:TypeId}(h:rowB P t=true):aH9 P t (mkRow P t):=by
 simp only[rowB,Ru]at h;obtain⟨⟨⟨g,j⟩,b⟩,n⟩:=h;obtain⟨i,hi⟩:=Option.isSome_iff_exists.1 g;obtain⟨d,o⟩:=Option.isSome_iff_exists.1 j;cases a:zeroOf P t with
 |none=>rw[a]at b;simp at b
 |some z=>
  rw[a]at b;simp only[Ru,Uo,beq_iff_eq]at b;obtain⟨⟨l,m⟩,f⟩:=b;have e:i.zero=some z:=by simpa [zeroOf,hi]using a
  constructor;intro k;simp only[mkRow,Ru,UM]at k;grind;refine⟨i,hi,by simp[mkRow,vI,hi],by simp[mkRow,hi],z,e,by simp[mkRow,a],?_,?_,?_,?_⟩;simpa [mkRow,a]using l;simpa [mkRow,a]using m;intro c;simp only[mkRow]at c;rw[c]at f;cases z<;>simp[cU3]at f;exact⟨_,rfl⟩
  intro c;simp only[mkRow]at c;rw[c]at f;simp only[mkRow,a,Tj,U9];cases z<;>simp_all [cU3,Value.cells]
  grind [Uo,Option.isSome_iff_exists,mkRow,vI]
def bP(T:Tab)(P:Program):Prop:=∀t,t<T.n t->aH9 P t (T.row t)
def memT(k:Nat)(l:List Nat):Bool:=List.rec (motive:=λ_=>Bool) false (λx _ ih=>cond (Nat.beq k x) true ih) l
def tabOf(P:Program)(n:Nat)(bad:List Nat):Tab:=⟨λt=>cond (memT t bad) 0 n,mkRow P,λ_ _=>True,λ_ h=>h,λ_=>false⟩
def eD6(P:Program)(n:Nat)(bad:List Nat)(lay:World->(Nat->Prop)->Prop)(hm:∀ {w w':World} {F F':Nat->Prop},(∀b,F b->F' b/\w'.heap[b]? =w.heap[b]?)->lay w F->lay w' F')(rf:List Nat):Tab:=⟨λt=>cond (memT t bad) 0 n,mkRow P,lay,hm,λg=>memT g rf⟩
theorem uN(l:List b):∀n,nth l n=l[n]? :=by
 induction l with
 |nil=>intro n;rfl
 |cons x r a=>
  intro n;cases n with
  |zero=>rfl
  |succ n=>exact(a n).trans Ad
def eJ2(h:(List.range n).all (λt=>memT t a||rowB P t)=true):bP (tabOf P n a) P:=by
 intro t d;have b:t<cond (memT t a) 0 n:=d;cases c:memT t a with
 |true=>rw[c]at b;exact absurd b (Nat.not_lt_zero t)
 |false=>
  rw[c]at b;have:=Uo.1 h t (Tf.2 b);rw[c,Bool.false_or]at this;exact eJ9 this
def dM2{d:∀ {w w':World} {F c:Nat->Prop},(∀b,F b->c b/\w'.heap[b]? =w.heap[b]?)->lay w F->lay w' c}(h:(List.range n).all (λt=>memT t a||rowB P t)=true):bP (eD6 P n a lay d e) P:=eJ2 h
section lists
variable{α β:Type}
theorem aD3(l:List α):∀n,rO l n=l.take n:=by
 induction l with
 |nil=>intro n;simp[rO]
 |cons x r a=>
  intro n;cases n with
  |zero=>rfl
  |succ n=>exact RI (x::·) (a n)
theorem lQ(l:List α):∀n,jX l n=l.drop n:=by
 induction l with
 |nil=>intro n;simp[jX]
 |cons x r a=>
  intro n;cases n with
  |zero=>rfl
  |succ n=>exact a n
theorem bT(l m:List α):appR l m=l++m:=by
 induction l with
 |nil=>rfl
 |cons x r a=>exact RI (x::·) a
theorem iL(l:List α):lenR l=l.length:=by
 induction l with
 |nil=>rfl
 |cons x r a=>exact RI Nat.succ a
theorem dU(f:α->β) l:mapR f l=l.map f:=by
 induction l with
 |nil=>rfl
 |cons x r a=>exact RI (f x::·) a
theorem eL7 f(l:List α):allR f l=l.all f:=by
 induction l with
 |nil=>rfl
 |cons x r a=>
  show cond (f x) (allR f r) false=_;rw[a];cases h:f x<;>simp[h]
theorem dY:allR f l=true↔∀x∈l,f x=true:=by rw[eL7];exact Uo
end lists
theorem mO cs off xs:splice cs off xs=cs.take off++(xs++cs.drop (off+xs.length)):=by
 simp[splice,aD3,lQ,bT,iL]
theorem force_eq v K:force v K=K v:=by cases v<;>rfl
theorem bC l:∀K,bJ l K=K l:=by
 induction l with
 |nil=>intro K;rfl
 |cons x r a=>
  intro K;show force x (λx'=>bJ r λb=>K (x'::b))=_;rw[force_eq,a]
def aT(h:cond b p False):b=true/\p:=by cases b<;>simp_all
def blt(h:Nat.blt a b=true):a<b:=by simpa [Nat.blt_eq]using h
theorem dX(h:need p K):p/\K:=ER
def wI(h:arith k n K):K (k.wrap n):=ER
def cC4(h:aZ0 xs K):∃ns,xs=ns.map (λn=>V.lit (.int .u8 n))/\K ns:=ER
def cO3(h:idx l i K):∃x,l[i]? =some x/\K x:=ER
def bL0{x:V}(h:x.still=true)(a:x.ok p q):x.pure:=by
 cases x<;>simp_all [V.pure,V.ok,V.still]
def wC(h:allR V.still l=true)(a:V.okL p q l):bM l:=
 aH.2 λx b=>bL0 (dY.1 h x b) (aH.1 a x b)
def fn_atom_pure(h:(V.fn g l).atom=true)(a:(V.fn g l).ok p q):(V.fn g l).pure:=by
 have b:cond (isMapC l) true (allR V.still l)=true:=h;simp[V.pure,V.ok]at a⊢;cases c:isMapC l with
 |false=>rw[c]at b;exact wC b a
 |true=>
  unfold isMapC at c;grind [V.okL,V.ok]
def cells_one{v:Value}(h:v.oneCell'=true):v.cells= #[v] :=by cases v<;>simp_all [Value.oneCell',Value.cells]
theorem add_block(a:Addr) n:(a.add n).block=a.block:=Gj
theorem add_add'(a:Addr) i j:(a.add i).add j=a.add (i+j):=by
 unfold Addr.add;grind
theorem rY b o n:(⟨b,o,none⟩:Addr).add n=⟨b,o+n,none⟩:=by unfold Addr.add;split<;>simp_all
theorem add_zero'(a:Addr):a.add 0=a:=by simp[Addr.add]
theorem Rv.cells(h:Rv w G v x)(d:∀y∈x.cells,y.one=true):RvL w G v.cells.toList x.cells:=by
 have single:x.cells=[x]->v.oneCell'=true->RvL w G v.cells.toList x.cells:=by
  intro b hv;rw[b,cells_one hv];refine⟨rfl,BH,λi u y f m=>?_⟩;grind
 cases h with
 |bot v=>simp[V.cells,V.one]at d
 |lit u f=>exact single rfl f
 |agg cs xs e l a=>exact⟨by simpa [Value.cells,V.cells]using e,by simpa [Value.cells]using l,λi c x j b=>a i c x (by simpa [Value.cells]using j) b⟩
 |tup cs xs e a=>simp[V.cells,V.one]at d
 |slN=>exact single rfl rfl
 |slS=>exact single rfl rfl
 |capN=>exact single rfl rfl
 |capS=>exact single rfl rfl
 |box i off=>exact single rfl rfl
 |arr k g a=>exact single rfl a
 |fp=>exact single rfl rfl
 |ae=>exact single rfl rfl
 |fn=>exact single rfl rfl
 |fb=>exact single rfl rfl
 |mp=>exact single rfl rfl
theorem Rv.bH(h:Rv w G v (.lit u)):v=u:=by cases h;rfl
def Rv.aZ3(h:Rv w G v (.lit u)):u.oneCell'=true:=by cases h;assumption
def Rv.zV(h:Rv w G v (.agg xs)):∃cs,v= .agg cs/\cs.size=xs.length/\(∀c∈cs,c.oneCell'=true)/\∀(i:Nat) c x,cs[i]? =some c->xs[i]? =some x->Rv w G c x:=by
 cases h<;>grind
def Rv.eP1(h:Rv w G v (.tup xs)):∃cs,v= .tuple cs/\cs.size=xs.length/\∀(i:Nat) c x,cs[i]? =some c->xs[i]? =some x->Rv w G c x:=by
 cases h<;>grind
theorem Rv.bI6(h:Rv w G v (.box i off)):v= .pointer (some ⟨G.β i,off,none⟩):=by cases h;rfl
theorem Rv.oQ(h:Rv w G v (.arr k g)):v=G.av k g:=by cases h;rfl
def Rv.cW5(h:Rv w G v (.fp cs)):∃(a:Addr) (cc:Nat->Value),v= .pointer (some a)/\(cs≠ []->G.O a.block= .fz)/\At w a cc cs/\∀ j y,cs[j]? =some y->Rv w G (cc j) y:=by
 cases h<;>grind
def Rv.cU8(h:Rv w G v (.fn g a))(j:isFnC a=true):(∃d,v= .func (.func g) #[] d/\d.size=a.length/\∀(i:Nat) c x,d[i]? =some c->a[i]? =some x->Rv w G c x)\/
 ∃(b:Array Value) (cs:List V),v= .func (.func g) b #[]/\a= .own 0 [] ::cs/\b.size=cs.length/\∀(i:Nat) c x,b[i]? =some c->cs[i]? =some x->Rv w G c x:=by
 cases h with
 |fn g d a f e=>exact .inl ⟨d,rfl,f,e⟩
 |fb g b a f e=>exact .inr ⟨b,a,rfl,rfl,f,e⟩
 |mp=>cases j
def Rv.mp_inv(h:Rv w G v (.fn g [.ap 0 [], .lit d, .sl es])):∃(b:Nat) (a:Array MapEntry) (c:Nat) (val:Value->Value),v= .map (some b)/\w.heap[b]? =some (.map a c)/\(∀s,MapKept.IsKey (litD d) s->jG s es=none->Instr.findNow (litD d) s a.toList 0=some none)/\
 (∀s x,MapKept.IsKey (litD d) s->jG s es=some x->(∃i,Instr.findNow (litD d) s a.toList 0=some (some (i,val s)))/\(val s).oneCell'=true)/\∀s x,MapKept.IsKey (litD d) s->jG s es=some x->Rv w G (val s) x:=by
 cases h with
 |fn g f j l e=>
  have k:0<f.size:=by rw[l];simp
  have:=e 0 f[0] (.ap 0 []) (by simp[k]) rfl;generalize f[0] =u at this;cases this
 |mp b a c g d es val p o q m n e=>exact⟨b,a,c,val,rfl,o,m,n,e⟩
def Rv.fn_cap(h:Rv w G v (.fn g a))(d:isFnC a=true)(f:∀cs,a≠ .own 0 [] ::cs):∃b,v= .func (.func g) #[] b/\b.size=a.length/\∀(i:Nat) c x,b[i]? =some c->a[i]? =some x->Rv w G c x:=by
 rcases h.cU8 d with h|⟨_,cs,_,e,_⟩;exact h;exact absurd e (f cs)
def Rv.fn_args(h:Rv w G v (.fn g a))(q:isFnC a=true) as xs(r:as.length=xs.length)(k:∀(i:Nat) v x,as[i]? =some v->xs[i]? =some x->Rv w G v x):
 ∃d b,v= .func (.func g) d b/\(d.toList++as++b.toList).length=(argsV a xs).length/\∀(i:Nat) v x,(d.toList++as++b.toList)[i]? =some v->(argsV a xs)[i]? =some x->Rv w G v x:=by
 have m:∀(as bs:List Value) (xs ys:List V),as.length=xs.length->bs.length=ys.length->(∀(i:Nat) v x,as[i]? =some v->xs[i]? =some x->Rv w G v x)->(∀(i:Nat) v x,bs[i]? =some v->ys[i]? =some x->Rv w G v x)->
  (as++bs).length=(xs++ys).length/\∀(i:Nat) v x,(as++bs)[i]? =some v->(xs++ys)[i]? =some x->Rv w G v x:=by
  grind
 have f:(∃b,v= .func (.func g) #[] b/\(∀e l cs,a≠ .own e l::cs)/\b.size=a.length/\∀(i:Nat) c x,b[i]? =some c->a[i]? =some x->Rv w G c x)\/
  ∃(d:Array Value) (cs:List V),v= .func (.func g) d #[]/\a= .own 0 [] ::cs/\d.size=cs.length/\∀(i:Nat) c x,d[i]? =some c->cs[i]? =some x->Rv w G c x:=by
  rcases h.cU8 q with⟨b,n,e2,j⟩|h
  ·refine .inl ⟨b,n,λe l cs t=>?_,e2,j⟩
   subst t;have s:0<b.size:=by rw[e2];simp
   have:=j 0 b[0] (.own e l) (by simp[s]) rfl;generalize b[0] =u at this;cases this
  ·exact .inr h
 rcases f with⟨b,n,y,e2,j⟩|⟨d,cs,n,rfl,e2,j⟩
 ·have o:argsV a xs=xs++a:=by
   simp_all [bT,argsV]
  rw[o];refine⟨#[],b,n,?_⟩;exact m as b.toList xs a r Hf k (λi v x hv k=>j i v x BH k)
 ·have o:argsV (.own 0 [] ::cs) xs=cs++xs:=by
   exact bT _ _
  rw[o];refine⟨d, #[],n,?_⟩;simp only[Rq];exact m d.toList as cs xs Hf r (λi v x hv k=>j i v x BH k) k
def Rv.dA8(h:Rv w G v (.ae k g sz i off)):∃ a  n c,v= .pointer (some (a.add (i*sz+off)))/\G.av k g= .slice (some a) n c:=by
 cases h<;>simp_all
def Rv.bK8(h:Rv w G v (.sl l)):(v= .slice none 0 0/\l=[])\/∃(a:Addr) (c sz:Nat) (cc:Nat->Value),v= .slice (some a) l.length c/\l.length<=c/\c<=maxLen/\(0<l.length->G.O a.block= .fz)/\(∀x∈l,x.cells.length=sz)/\At w a cc (l.flatMap V.cells)/\∀ j y,(l.flatMap V.cells)[j]? =some y->Rv w G (cc j) y:=by
 cases h with
 |slN=>exact .inl ⟨rfl,rfl⟩
 |slS a c l sz cc d g e i b f=>exact .inr ⟨a,c,sz,cc,rfl,d,g,e,i,b,f⟩
def Rv.vP(h:Rv w G v (.cap l)):(v= .slice none 0 0/\l=[])\/∃(a:Addr) (sz:Nat) (cc:Nat->Value),v= .slice (some a) l.length l.length/\l.length<=maxLen/\(0<l.length->G.O a.block= .fz)/\(∀x∈l,x.cells.length=sz)/\At w a cc (l.flatMap V.cells)/\∀ j y,(l.flatMap V.cells)[j]? =some y->Rv w G (cc j) y:=by
 cases h with
 |capN=>exact .inl ⟨rfl,rfl⟩
 |capS a l sz cc e c f b d=>exact .inr ⟨a,sz,cc,rfl,e,c,f,b,d⟩
def Rv.wK(h:Rv w G v (.cap l)):Rv w G v (.sl l):=by
 cases h with
 |capN=>exact .slN
 |capS a l sz cc e c f b d=>exact .slS a l.length l sz cc (Rf _) e c f b d
theorem sF{x:V}(h:x.ok p q):V.okL p q x.cells:=by
 cases x<;>simp_all [V.cells,V.ok,V.okL]
theorem Inv.ev(inv:Inv T Φ σ a w G) x:Rv w G (a.eval x) (σ.ev x)/\(σ.ev x).ok σ.hasB σ.hasA:=by
 cases x with
 |tmp t=>exact⟨inv.env t,inv.wfE t⟩
 |const v=>
  simp[Act.eval,St.ev];unfold dD8;split;rename_i cs;by_cases hc:allR Value.oneCell' cs.toList=true;rw[hc];have b:=dY.1 hc;refine⟨Rv.agg cs _ (by simp[dU]) (by simpa using b) λi c x hc d=>?_,?_⟩;rw[dU,RN]at d;have:cs.toList[i]? =some c:=D8;rw[this]at d;simp at d;subst d;exact .lit c (b c (QZ this));simp_all [TD,aH,dU,Rn,V.ok];rw[Ue]at hc;rw[hc];exact⟨.bot _,by simp[Tt,V.ok]⟩;exact⟨.bot _,BN⟩;rename_i e j;refine⟨.lit v ?_,BN⟩;cases v<;>simp_all [Value.oneCell']
 |global g=>exact⟨.bot _,by simp[St.ev,V.ok]⟩
 |func f=>exact⟨.fn f #[] [] rfl (λi c x hc=>I5),by simp[St.ev,V.ok,V.okL]⟩
def Out(T:Tab)(Φ:Fr)(σ:St)(a:Act)(K:VK)(res:Result Next):Prop:=
 ∃v' w' v ms G',(res= .ok (.value v') w'\/(res= .ok .skip w'/\v'=undef))/\K v ms/\Inv T Φ (σ.apps ms) a w' G'/\Rv w' G' v' v/\v.ok (σ.apps ms).hasB (σ.apps ms).hasA
def Out.plain(inv:Inv T Φ σ a w G)(e:b= .ok (.value v') w)(c:K v [])(hv:Rv w G v' v)(d:v.ok σ.hasB σ.hasA):Out T Φ σ a K b:=
 ⟨v',w,v,[],G, .inl e,c,inv,hv,d⟩
section
variable{T:Tab}{P:Program}{Φ:Fr}{σ:St}{a:Act}{w:World}{G:Gh}{K:VK}{o:Oper}{d:Nat}
def B_ok b w G:Rv w G (.bool b) (B b):= .lit _ rfl
def I_ok k n w G:Rv w G (.int k n) (lC k n):= .lit _ rfl
theorem dL:(V.lit u).ok p q:=BN
def cZ8(inv:Inv T Φ σ a w G) x(ho:o.op= .move x)(h:force (σ.ev x) λv=>K v []):Out T Φ σ a K ((execOp a.eval o).run P w):=LD
def bL7(inv:Inv T Φ σ a w G) x(g:o.op= .nilCheck x)(h:cond (dE6 (σ.ev x)) (force (σ.ev x) λv=>K v []) False):Out T Φ σ a K ((execOp a.eval o).run P w):=by
 let⟨e,h⟩:=aT h;rw[force_eq]at h;let⟨b,f⟩:=inv.ev x
 have c:∃A,a.eval x= .pointer (some A):=by
  generalize σ.ev x=y at b e;generalize a.eval x=v at b;cases b<;>first|exact⟨_,rfl⟩|exact absurd e Ai|(simp[dE6]at e)
 let⟨A,c⟩:=c;have i:(execOp a.eval o).run P w= .ok (.value (a.eval x)) w:=by simp[execOp,g,c]
 exact .plain inv i h b f
def cB9(inv:Inv T Φ σ a w G) x(ho:o.op= .assign x)(h:force (σ.ev x) λv=>K v []):Out T Φ σ a K ((execOp a.eval o).run P w):=LD
def dA3(inv:Inv T Φ σ a w G) c x y(f:o.op= .pick c x y)(h:bA8 (σ.ev c) (σ.ev x) (σ.ev y) K):Out T Φ σ a K ((execOp a.eval o).run P w):=by
 let⟨e,_⟩:=inv.ev c;let⟨i,j⟩:=inv.ev x;let⟨k,l⟩:=inv.ev y;unfold bA8 at h;split at h;rename_i t g;rw[g]at e;have b:=e.bH;cases t;simp[branch,force_eq]at h;exact .plain inv (by simp[execOp,f,b,asBool]) h k l;simp[branch,force_eq]at h;exact .plain inv (by simp[execOp,f,b,asBool]) h i j;exact h.elim
def dZ4(inv:Inv T Φ σ a w G) u t x(f:o.op= .unOp u t x)(h:unVC u (σ.ev x) K):Out T Φ σ a K ((execOp a.eval o).run P w):=by
 let⟨c,_⟩:=inv.ev x;unfold unVC at h;split at h;rename_i b e;rw[e]at c;have hv:=c.bH;exact .plain inv (by simp[execOp,f,hv,Op.unary]) h (B_ok _ _ _) dL;rename_i k n e;rw[e]at c;have hv:=c.bH;exact .plain inv (by simp[execOp,f,hv,Op.unary,Op.intArith]) (wI h) (I_ok _ _ _ _) dL;exact h.elim
def yY x y b t i(e:o.op= .binOp b t x y i) u v r(g:a.eval x=u)(h:a.eval y=v)
 (c:(eqGuard b t x y u v).run P w= .ok () w)(f:(binOp b t u v).run P w= .ok r w):(execOp a.eval o).run P w= .ok (.value r) w:=by
 simp[execOp,e,g,h,SH,c,f,RG,Tq]
def qZ b t x y u v(h:∀cs,u≠ .agg cs)(c:u≠ .nilIface):(eqGuard b t x y u v).run P w= .ok () w:=by
 cases u with
 |agg cs=>exact absurd rfl (h cs)
 |nilIface=>exact absurd rfl c
 |_=>cases b<;>simp[eqGuard]
def dM7(inv:Inv T Φ σ a w G) x y c t e(j:o.op= .binOp c t x y e) k m n(q:a.eval x= .int k m)(s:a.eval y= .int k n)
 (h:cM6 c k m n K):Out T Φ σ a K ((execOp a.eval o).run P w):=by
 have g:(eqGuard c t x y (.int k m) (.int k n)).run P w= .ok () w:=qZ _ _ _ _ _ _ Ad Ad
 have b:∀r:Value,r.oneCell'=true->(binOp c t (.int k m) (.int k n)).run P w= .ok r w->K (.lit r) []->Out T Φ σ a K ((execOp a.eval o).run P w):=λr f l i=>
  .plain inv (yY x y c t e j _ _ r q s g l) i (.lit r f) dL
 unfold cM6 at h;split at h
 ·exact b _ rfl Hq (wI h)
 ·exact b _ rfl Hq (wI h)
 ·exact b _ rfl Hq (wI h)
 ·let⟨h0,h⟩:=dX h
  exact b _ rfl (by simp[binOp,Op.intDiv,h0]) (wI h)
 ·let⟨h0,h⟩:=dX h
  exact b _ rfl (by simp[binOp,Op.intDiv,h0]) h
 ·let⟨h0,h⟩:=dX h
  exact b _ rfl FY h
 ·let⟨h0,h⟩:=dX h
  exact b _ rfl FZ (wI h)
 ·exact b _ rfl (by simp[binOp,Op.intBits,orI]) h
 ·exact b _ rfl (by simp[binOp,Op.intCmp,ltB]) h
 ·exact b _ rfl (by simp[binOp,Op.intCmp,ltB]) h
 ·exact b _ rfl (by simp[binOp,Op.intCmp,leB]) h
 ·exact b _ rfl (by simp[binOp,Op.intCmp,leB]) h
 ·exact b (.bool (eqB m n)) rfl (by simp[binOp,Op.intCmp,eqB];exact TT.2 (by simp)) h
 ·exact b (.bool (!eqB m n)) rfl (by simp[binOp,Op.intCmp,eqB,bne];exact TT.2 (by simp)) h
 ·exact h.elim
def sh_sound(inv:Inv T Φ σ a w G) x y c t f(l:o.op= .binOp c t x y f) k e m n(s:a.eval x= .int k m)(u:a.eval y= .int e n)
 (h:shVC c k m n K):Out T Φ σ a K ((execOp a.eval o).run P w):=by
 have i:(eqGuard c t x y (.int k m) (.int e n)).run P w= .ok () w:=qZ _ _ _ _ _ _ Ad Ad
 have b:∀r:Value,r.oneCell'=true->(binOp c t (.int k m) (.int e n)).run P w= .ok r w->K (.lit r) []->Out T Φ σ a K ((execOp a.eval o).run P w):=λr g q j=>
  .plain inv (yY x y c t f l _ _ r s u i q) j (.lit r g) dL
 unfold shVC at h;split at h
 ·let⟨h0,h⟩:=dX h
  exact b _ rfl FY h
 ·let⟨h0,h⟩:=dX h
  exact b _ rfl FZ (wI h)
 ·exact h.elim
def dM9(inv:Inv T Φ σ a w G) x y c t e(j:o.op= .binOp c t x y e) m n(l:a.eval x= .string m)(q:a.eval y= .string n)
 (h:cH0 c m n K):Out T Φ σ a K ((execOp a.eval o).run P w):=by
 have g:(eqGuard c t x y (.string m) (.string n)).run P w= .ok () w:=qZ _ _ _ _ _ _ Ad Ad
 have b:∀r:Value,r.oneCell'=true->(binOp c t (.string m) (.string n)).run P w= .ok r w->K (.lit r) []->Out T Φ σ a K ((execOp a.eval o).run P w):=λr f k i=>
  .plain inv (yY x y c t e j _ _ r l q g k) i (.lit r f) dL
 unfold cH0 at h;split at h
 ·let⟨s,h⟩:=dX h
  refine b _ rfl ?_ h;have:¬(IntKind.i64.max< ((m.size+n.size:Nat):Int)):=by simp[IntKind.max,IntKind.signed,IntKind.bits];omega
  simp only[binOp,Op.stringOp];rw[Q9 (by simpa using this)];simp
 ·exact b _ rfl (by simp[binOp,Op.stringOp,eqS]) h
 ·exact b _ rfl (by simp[binOp,Op.stringOp,eqS]) h
 ·exact b _ rfl (by simp[binOp,Op.stringOp,ltS]) h
 ·exact b (.bool (!(ltS m n||eqS m n))) rfl (by simp[binOp,Op.stringOp,ltS,eqS]) h
 ·exact b _ rfl (by simp[binOp,Op.stringOp,ltS,eqS]) h
 ·exact b _ rfl (by simp[binOp,Op.stringOp,ltS]) h
 ·exact h.elim
def dI(h:P.underlying t=some b) w:(underlying t).run P w= .ok b w:=RJ h w
def cO9(h:P.info? t=some i) w:(typeInfo t).run P w= .ok i w:=by simp[typeInfo,h]
theorem bG2(h:P.info? t=some i) w:(sizeOf t).run P w= .ok i.size w:=by simp[sizeOf,typeInfo,h]
def dI4(h:aH9 P t r)(hk:r.kd= .bool):P.underlying t=some .bool:=MF
def bG8(c:P.underlying t=some .bool) m n:(Op.equal t (.bool m) (.bool n)).run P w= .ok (m==n) w:=by
 have h:∀b,(Op.equalIn (b+1) t (.bool m) (.bool n)).run P w= .ok (m==n) w:=λb=>by simp[Op.equalIn,dI c]
 exact h 9999
def cV0(g:bP T P)(inv:Inv T Φ σ a w G) x y e t j(q:o.op= .binOp e t x y j) m n(u:a.eval x= .bool m)(v:a.eval y= .bool n)
 (i:t<T.n t)(h:bG1 e (T.row t).kd m n K):Out T Φ σ a K ((execOp a.eval o).run P w):=by
 have l:(eqGuard e t x y (.bool m) (.bool n)).run P w= .ok () w:=qZ _ _ _ _ _ _ Ad Ad
 have b:∀r:Value,r.oneCell'=true->(binOp e t (.bool m) (.bool n)).run P w= .ok r w->K (.lit r) []->Out T Φ σ a K ((execOp a.eval o).run P w):=λr k s c=>
  .plain inv (yY x y e t j q _ _ r u v l s) c (.lit r k) dL
 unfold bG1 at h;split at h
 ·rename_i c
  have f:=dI4 (g t i) c;exact b _ rfl (by simp[binOp,bG8 f,eqBB]) h
 ·rename_i c
  have f:=dI4 (g t i) c;exact b (.bool (!eqBB m n)) rfl (by simp[binOp,bG8 f,eqBB]) h
 ·exact h.elim
def bN4(inv:Inv T Φ σ a w G) x i(g:o.op= .extract x i)(h:wZ (σ.ev x) i K):Out T Φ σ a K ((execOp a.eval o).run P w):=by
 let⟨c,k⟩:=inv.ev x;unfold wZ at h;split at h;rename_i cs j;rw[j]at c k;split at h;rename_i v hv;rw[force_eq]at h;generalize b:a.eval x=l at c;cases c with
 |tup vs xs f e=>
  have hi:i<vs.size:=by rw[f];exact(QW.1 hv).1
  refine .plain inv (v':=vs[i]) (by simp[execOp,g,b,Instr.extract,hi]) h (e i _ _ (by simp[hi]) hv) ?_;grind [aH,QZ,V.ok]
 exact h.elim;exact h.elim
theorem dG0 a b:maxI a b=if b>a then b else a:=by unfold maxI;by_cases h:b>a<;>simp[h]
theorem dJ1 a b:minI a b=if b<a then b else a:=by unfold minI;by_cases h:b<a<;>simp[h]
theorem aK6(inv:Inv T Φ σ a w G) b f(r:(b= .max/\f=maxI)\/(b= .min/\f=minI)) as v
 (p:o.op= .call ⟨.builtin b,⟨as⟩,v⟩)(h:rP f (mapR σ.ev as) K):Out T Φ σ a K ((execOp a.eval o).run P w):=by
 rw[dU]at h;unfold rP at h;split at h
 ·rename_i k m t n g
  rcases as with _|⟨x,_|⟨y,_|⟨z,as⟩⟩⟩<;>try(simp at g;done)
  ·simp[Rt,SY,List.cons.injEq,UJ]at g
   let⟨j,_⟩:=inv.ev x;let⟨l,_⟩:=inv.ev y;rw[g.1]at j;rw[g.2]at l;have c:=j.bH;have e:=l.bH;rcases r with⟨rfl,rfl⟩|⟨rfl,rfl⟩
   ·exact .plain inv (by simp[execOp,p,resolve,invoke,builtin,c,e,Builtin.max_,Builtin.max2,dG0]) h (I_ok _ _ _ _) dL
   ·exact .plain inv (by simp[execOp,p,resolve,invoke,builtin,c,e,Builtin.min_,Builtin.min2,dJ1]) h (I_ok _ _ _ _) dL
 ·rename_i k m t n u q g
  rcases as with _|⟨x,_|⟨y,_|⟨z,_|⟨z',as⟩⟩⟩⟩<;>try(simp at g;done)
  ·simp[Rt,SY,List.cons.injEq,UJ]at g
   let⟨j,_⟩:=inv.ev x;let⟨l,_⟩:=inv.ev y;let⟨s,_⟩:=inv.ev z;rw[g.1]at j;rw[g.2.1]at l;rw[g.2.2]at s;have c:=j.bH;have e:=l.bH;have i:=s.bH;rcases r with⟨rfl,rfl⟩|⟨rfl,rfl⟩
   ·exact .plain inv (by simp[execOp,p,resolve,invoke,builtin,c,e,i,Builtin.max_,Builtin.max2,dG0]) h (I_ok _ _ _ _) dL
   ·exact .plain inv (by simp[execOp,p,resolve,invoke,builtin,c,e,i,Builtin.min_,Builtin.min2,dJ1]) h (I_ok _ _ _ _) dL
 ·exact h.elim
end
section
variable{T:Tab}{P:Program}{Φ:Fr}{σ σ':St}{a:Act}{w w':World}{G G':Gh}
def gJ.keep(r:Keep w w' G G')(hp:bM l)(d:∀b,G.O b= .ar k->G'.O b= .ar k/\w'.heap[b]? =w.heap[b]?)(h:gJ T w G k u ty l):gJ T w' G' k u ty l:=by
 rcases h with h|⟨b,cap,cur,e,c,f,g,i,m,n,o⟩;exact .inl h;refine .inr ⟨b,cap,cur,e,(d b c).1,(d b c).2.trans f,g,i,m,n,o.keep r (p:=λ_=>False) (q:=λ_ _=>False) ?_ (λ_ h=>h.elim) (λ_ _ h=>h.elim)⟩;rw[aH];intro y hy;exact QH
def Rv.aW(b:Keep w w' G G')(c:x.pure)(h:Rv w G v x):Rv w' G' v x:=h.keep b c (λ_ h=>h.elim) (λ_ _ h=>h.elim)
def bL6.keep(q:Keep w w' G G')(g:∀b,G.O b= .ar k->G'.O b= .ar k/\w'.heap[b]? =w.heap[b]?)(h:bL6 d w G k u es):bL6 d w' G' k u es:=by
 let⟨b,e,c,m,f,n,o,p⟩:=h;refine⟨b,e,c,m,(g b f).1,(g b f).2.trans n,o,λs r=>?_⟩;have:=p s r;cases j:jG s es with
 |none=>rw[j]at this;exact this
 |some x=>
  rw[j]at this;let⟨i,v,t,y,z,l⟩:=this;exact⟨i,v,t,y,z.aW q l,l⟩
def gW.keep(d:Keep w w' G G')(hp:bM en.l)(f:G'.av k en.gen=G.av k en.gen)(e:∀b,G.O b= .ar k->G'.O b= .ar k/\w'.heap[b]? =w.heap[b]?)(h:gW T w G k en):gW T w' G' k en:=by
 unfold gW at*;rw[f];have j:(V.sl en.l).pure:=AP;have g:(V.cap en.l).pure:=AP;split;rename_i c;rw[c]at h;split;trivial;rename_i i;rw[i]at h;exact bL6.keep d e h;rename_i c;rw[c]at h;exact h.aW d j;rename_i c;rw[c]at h;exact⟨h.1,h.2.keep d hp e⟩;rename_i c;rw[c]at h;exact⟨h.1,h.2.imp (·.keep d hp e) (λh=>⟨h.1.aW d g,h.2⟩)⟩
def Inv.change(inv:Inv T Φ σ a w G)(henv:σ'.env=σ.env)(hk:Keep w w' G G')
 (hβ:∀i,σ.hasB i->G'.β i=G.β i)(hav:∀k g,σ.hasA k g->G'.av k g=G.av k g)
 (hB:∀i,σ.hasB i->σ'.hasB i)(hA:∀k g,σ.hasA k g->σ'.hasA k g)
 (hbox:∀i cs,σ'.bx i=some cs->(σ.bx i=some cs/\G'.O (G.β i)= .bx i/\w'.heap[G.β i]? =w.heap[G.β i]?)\/
  ((∃c t,w'.heap[G'.β i]? =some (.cells c t (0,0))/\RvL w' G' c.toList cs/\G'.O (G'.β i)= .bx i)/\V.okL σ'.hasB σ'.hasA cs))
 (harr:∀k en,σ'.ar k=some en->(σ.ar k=some en/\∀b,G.O b= .ar k->G'.O b= .ar k/\w'.heap[b]? =w.heap[b]?)\/(gW T w' G' k en/\bM en.l))
 (htag:∀b,G'.O b≠ .ext->b<w'.heap.size)(hO:∀b,G'.O b=G.O b\/G'.O b= .ext\/Φ.mine b)
 (hframe:∀b,w'.heap[b]? =w.heap[b]? \/Φ.mine b)(hsize:w.heap.size<=w'.heap.size)(hos:w'.os=w.os)(htape:w'.tape=w.tape)(hout:w'.output=w.output):Inv T Φ σ' a w' G' where
 nd:=inv.nd
 kp:=inv.kp
 sz:=inv.sz
 env s:=by rw[henv];exact(inv.env s).keep hk (inv.wfE s) hβ hav
 wfE s:=by rw[henv];exact V.ok.imp hB hA _ (inv.wfE s)
 box i cs hi:=by
  rcases hbox i cs hi with⟨h1,h2,h3⟩|⟨h1,_⟩;let⟨c,t,g1,g2,g3⟩:=inv.box i cs h1;refine⟨c,t,?_,g2.keep hk (inv.wfB i cs h1) hβ hav,?_⟩;rw[hβ i ⟨cs,h1⟩,h3];exact g1;rw[hβ i ⟨cs,h1⟩];exact h2;exact h1
 wfB i cs hi:=by
  rcases hbox i cs hi with⟨h1,_,_⟩|⟨_,h2⟩;exact V.okL.imp hB hA _ (inv.wfB i cs h1);exact h2
 arr k en hk':=by
  rcases harr k en hk' with⟨h1,h2⟩|⟨h1,_⟩;exact(inv.arr k en h1).keep hk (inv.wfA k en h1) (hav k en.gen ⟨en,h1,Rf _⟩) h2;exact h1
 wfA k en hk':=by
  rcases harr k en hk' with⟨h1,_⟩|⟨_,h2⟩;exact inv.wfA k en h1;exact h2
 tag:=htag
 mineB b i h:=by
  rcases hO b with h1|h1|h1;exact inv.mineB b i (h1▸h);rw[h1]at h;cases h;exact h1
 mineA b k h:=by
  rcases hO b with h1|h1|h1;exact inv.mineA b k (h1▸h);rw[h1]at h;cases h;exact h1
 fzm b h:=by
  rcases hO b with h1|h1|h1;exact inv.fzm b (h1▸h);rw[h1]at h;cases h;exact .inr h1
 F0 b h:=hk.fz b (inv.F0 b h)
 frame b hb hg:=by
  rcases hframe b with h1|h1;rw[h1];exact inv.frame b hb hg;rcases h1 with h1|h1;omega;exact absurd h1 hg
 size:=Rz inv.size hsize
 os:=hos.trans inv.os
 tape:=htape.trans inv.tape
 output:=hout.trans inv.output
 args j v h:=by
  let⟨h1,h2,en,h3⟩:=inv.args j v h;have hh:σ.hasA j 0:=⟨en,h3,RY _⟩;let⟨en',h4,_⟩:=hA j 0 hh;simp_all
 lay:=inv.lay
 argb i b h:=by
  let⟨h1,h2,cs,h3⟩:=inv.argb i b h;let⟨cs',h4⟩:=hB i ⟨cs,h3⟩;exact⟨(hβ i ⟨cs,h3⟩).trans h1,h2,cs',h4⟩
theorem upd_same f s(x:b):upd f s x s=x:=by simp[upd]
theorem upd_ne f(x:b)(h:t≠s):upd f s x t=f t:=by
 have:Nat.beq t s=false:=FX;simp[upd,this]
def Inv.ext_size(inv:Inv T Φ σ a w G)(h:w.heap.size<=b):G.O b= .ext:=by
 cases c:G.O b with
 |ext=>rfl
 |_=>have:=inv.tag b (by rw[c];simp);omega
theorem aN0(inv:Inv T Φ σ a w G):Φ.mine w.heap.size:= .inl inv.size
theorem Inv.lM(inv:Inv T Φ σ a w G){d:Nat}(q:σ.bx d=none){c:Array Value}{t:TypeId}{cs:List V}(r:RvL w G c.toList cs)(l:V.okL σ.hasB σ.hasA cs):
 Inv T Φ (σ.apps [.b d cs]) a (w.alloc (.cells c t)) {G with β:=upd G.β d w.heap.size,O:=upd G.O w.heap.size (.bx d)}:=by
 have f:∀b,b<w.heap.size->(w.alloc (.cells c t)).heap[b]? =w.heap[b]? :=λb hb=>Uw w _ hb;have n:∀b,G.O b≠ .ext->b≠w.heap.size:=λb hb e=>by have:=inv.tag b hb;omega
 have j:Keep w (w.alloc (.cells c t)) G {G with β:=upd G.β d w.heap.size,O:=upd G.O w.heap.size (.bx d)}:=
  ⟨λb hb=>by show upd G.O _ _ b=_;rw[upd_ne _ _ (n b (by rw[hb];simp))];exact hb,λb hb=>f b (inv.tag b AV)⟩
 have m:∀i,σ.hasB i->upd G.β d w.heap.size i=G.β i:=λi ⟨x,g⟩=>upd_ne _ _ (λe=>by subst e;rw[q]at g;cases g)
 have o:∀i,σ.hasB i->(σ.apps [.b d cs]).hasB i:=λi ⟨x,g⟩=>⟨x,by
  show upd σ.bx d _ i=_;rw[upd_ne _ _ (λe=>by subst e;rw[q]at g;cases g)];exact g⟩
 refine inv.change rfl j m (λ_ _ _=>rfl) o (λ_ _ h=>h) ?_ ?_ ?_ ?_ ?_ Ad rfl rfl rfl
 ·intro i xs hi
  by_cases e:i=d
  ·subst e
   refine .inr ⟨⟨c,t,?_,?_,?_⟩,?_⟩
   ·show(w.alloc _).heap[upd G.β i w.heap.size i]? =_
    rw[upd_same];exact U6 w _
   ·have:xs=cs:=by
     exact Qc
    subst this;exact r.keep j l m (λ_ _ _=>rfl)
   ·grind [upd_same]
   ·have:xs=cs:=by
     exact Qc
    subst this;exact V.okL.imp o (λ_ _ h=>h) _ l
  ·have h2:σ.bx i=some xs:=by
    have h2:upd σ.bx d (some cs) i=some xs:=hi;rwa [upd_ne _ _ e]at h2
   obtain⟨v,B,y,z,A⟩:=inv.box i xs h2;grind [upd_ne]
 ·intro k en s
  refine .inl ⟨s,λb hb=>?_⟩;have u:=inv.tag b AV;grind [upd_ne]
 ·intro b hb
  by_cases e:b=w.heap.size
  ·subst e;simp
  ·have h2:upd G.O w.heap.size (.bx d) b≠ .ext:=hb
   rw[upd_ne _ _ e]at h2;have:=inv.tag b h2;simp;omega
 ·grind [aN0,upd_ne]
 ·intro b
  rcases UN b w.heap.size with h|h|h
  ·exact .inl (f b h)
  ·subst h;exact .inr (aN0 inv)
  ·refine .inl ?_
   rw[Array.getElem?_eq_none AY,Array.getElem?_eq_none Aa]
def Inv.eJ4(inv:Inv T Φ σ a w G)(hi:σ.bx i=some old)(v:RvL w G c.toList cs)(m:V.okL σ.hasB σ.hasA cs)
 (A:w'.heap[G.β i]? =some (.cells c t (0,0)))(q:∀b,b≠G.β i->w'.heap[b]? =w.heap[b]?)(z:w'.heap.size=w.heap.size)(r:w'.os=w.os)(f:w'.tape=w.tape)(n:w'.output=w.output):
 Inv T Φ (σ.apps [.b i cs]) a w' G:=by
 let⟨D,L,E,F,o⟩:=inv.box i old hi;have l:Keep w w' G G:=⟨λ_ h=>h,λb d=>q b (λe=>by subst e;rw[o]at d;cases d)⟩
 have s:∀j,σ.hasB j->(σ.apps [.b i cs]).hasB j:=λj ⟨x,B⟩=>by
  by_cases e:j=i;subst e;exact⟨cs,upd_same _ _ _⟩;exact⟨x,by show upd σ.bx i _ j=_;rw[upd_ne _ _ e];exact B⟩
 refine inv.change rfl l (λ_ _=>rfl) (λ_ _ _=>rfl) s (λ_ _ h=>h) ?_ ?_ ?_ (λ_=> .inl rfl) ?_ Aa r f n
 ·intro j xs u
  by_cases e:j=i
  ·subst e
   have:xs=cs:=by
    have g:upd σ.bx j (some cs) j=some xs:=u;rw[upd_same]at g;cases g;rfl
   subst this;exact .inr ⟨⟨c,t,A,v.keep l m (λ_ _=>rfl) (λ_ _ _=>rfl),o⟩,V.okL.imp s (λ_ _ h=>h) _ m⟩
  ·have g:σ.bx j=some xs:=by
    have g:upd σ.bx i (some cs) j=some xs:=u;rwa [upd_ne _ _ e]at g
   let⟨C,K,H,I,J⟩:=inv.box j xs g;grind
 ·intro k en y
  exact .inl ⟨y,λb d=>⟨d,q b (λe=>by subst e;rw[o]at d;cases d)⟩⟩
 ·intro b d;rw[z];exact inv.tag b d
 ·intro b
  by_cases e:b=G.β i
  ·subst e;exact .inr (inv.mineB _ i o)
  ·exact .inl (q b e)
def Inv.zU(inv:Inv T Φ σ a w G)
 (D:∀g,σ.hasA k g->g<=en.gen)(r:∀z g,σ.hasA z g->av' z g=G.av z g)(H:bM en.l)
 (v:gW T w' {G with av:=av',O:=O'} k en)
 (A:∀b,G.O b≠ .ext->G.O b≠ .ar k->O' b=G.O b)(q:∀b,O' b=G.O b\/O' b= .ext\/(O' b= .ar k/\Φ.mine b/\b<w'.heap.size)\/(O' b= .fz/\G.O b= .ar k))
 (u:∀b,b<w.heap.size->G.O b≠ .ar k->w'.heap[b]? =w.heap[b]?)(I:w.heap.size<=w'.heap.size)(y:w'.os=w.os)(d:w'.tape=w.tape)(n:w'.output=w.output):
 Inv T Φ (σ.apps [.a k en]) a w' {G with av:=av',O:=O'}:=by
 have m:=inv.tag;have s:Keep w w' G {G with av:=av',O:=O'}:=⟨λb hb=>(A b AV AV).trans hb,λb hb=>u b (m b AV) AV⟩
 have o:∀j g,σ.hasA j g->(σ.apps [.a k en]).hasA j g:=λj g B=>by
  by_cases e:j=k;subst e;exact⟨en,upd_same _ _ _,D g B⟩;let⟨x,J,E⟩:=B;exact⟨x,by show upd σ.ar k _ j=_;rw[upd_ne _ _ e];exact J,E⟩
 refine inv.change rfl s (λ_ _=>rfl) r (λ_ h=>h) o ?_ ?_ ?_ ?_ ?_ I y d n
 ·intro i cs hi
  let⟨c,t,K,L,q3⟩:=inv.box i cs hi;have F:=m (G.β i) Ip;exact .inl ⟨hi,(A _ Ip Ip).trans q3,u _ F Ip⟩
 ·intro j x C
  by_cases e:j=k
  ·subst e
   have:x=en:=by
    have f:upd σ.ar j (some en) j=some x:=C;rw[upd_same]at f;cases f;rfl
   subst this;exact .inr ⟨v,H⟩
  ·have f:σ.ar j=some x:=by
    have f:upd σ.ar k (some en) j=some x:=C;rwa [upd_ne _ _ e]at f
   simp_all
 ·grind
 ·intro b
  rcases q b with h|h|h|h
  ·exact .inl h
  ·exact .inr (.inl h)
  ·exact .inr (.inr h.2.1)
  ·exact .inr (.inr (inv.mineA b k h.2))
 ·intro b
  rcases Sj b w.heap.size with h|h
  ·by_cases e:G.O b= .ar k
   ·exact .inr (inv.mineA b k e)
   ·exact .inl (u b h e)
  ·exact .inr (.inl (Rz inv.size h))
def Inv.bA3(inv:Inv T Φ σ a w G)(hd:Φ.wr d)(hv:Rv w G v' v)(hok:v.ok σ.hasB σ.hasA):Inv T Φ (σ.set d v) (a.put (some d) v') w G where
 nd:=inv.nd
 kp s u h:=by
  have hs:s≠d:=λe=>by rw[e,hd.2]at h;cases h
  show(a.tmps.setIfInBounds d v').getD s undef=u;rw[show(a.tmps.setIfInBounds d v').getD s undef=a.tmps.getD s undef by simp[Array.getElem?_setIfInBounds_ne (Ne.symm hs)]];exact inv.kp s u h
 sz:=by show(a.tmps.setIfInBounds d v').size=_;simp[inv.sz]
 env s:=by
  show Rv w G ((a.tmps.setIfInBounds d v').getD s undef) (upd σ.env d v s);by_cases e:s=d;subst e;rw[upd_same];have:(a.tmps.setIfInBounds s v').getD s undef=v':=by simp[inv.sz,hd.1]
  rw[this];exact hv;rw[upd_ne _ _ e]
  have:(a.tmps.setIfInBounds d v').getD s undef=a.tmps.getD s undef:=by
   simp[Array.getElem?_setIfInBounds_ne (Ne.symm e)]
  rw[this];exact inv.env s
 wfE s:=by
  show(upd σ.env d v s).ok _ _;by_cases e:s=d;subst e;rw[upd_same];exact hok;rw[upd_ne _ _ e];exact inv.wfE s
 box:=inv.box
 wfB:=inv.wfB
 arr:=inv.arr
 wfA:=inv.wfA
 tag:=inv.tag
 mineB:=inv.mineB
 mineA:=inv.mineA
 fzm:=inv.fzm
 F0:=inv.F0
 frame:=inv.frame
 size:=inv.size
 os:=inv.os
 tape:=inv.tape
 output:=inv.output
 args:=inv.args
 lay:=inv.lay
 argb:=inv.argb
def Inv.drew(inv:Inv T Φ σ a w G) n:Inv T Φ σ a {w with drawn:=n} G:=
 inv.change rfl ⟨λ_ h=>h,λ_ _=>rfl⟩ (λ_ _=>rfl) (λ_ _ _=>rfl) (λ_ h=>h) (λ_ _ h=>h)
  (λi cs hi=> .inl ⟨hi,(inv.box i cs hi).choose_spec.choose_spec.2.2,rfl⟩) (λ_ _ c=> .inl ⟨c,λ_ b=>⟨b,rfl⟩⟩) inv.tag (λ_=> .inl rfl) (λ_=> .inl rfl) (Rf _) rfl rfl rfl
end
section
variable{T:Tab}{P:Program}{Φ:Fr}{σ:St}{a:Act}{w:World}{G:Gh}{K:VK}{o:Oper}{d:Nat}
theorem RvL.append(h:RvL w G vs xs)(c:RvL w G e ys):RvL w G (vs++e) (xs++ys):=by
 refine⟨by simp[h.len,c.len],?_,?_⟩;intro v hv;rcases Rh.1 hv with hv|hv;exact h.one v hv;exact c.one v hv;intro i v x hv b;have f:=h.len;rw[UW]at hv b;by_cases hi:i<vs.length;rw[QU hi]at hv;rw[QU Aa]at b;exact h.rel i v x hv b;rw[Q9 hi]at hv;rw[Q9 Aa,<-f]at b;exact c.rel _ v x hv b
def RvL.take(h:RvL w G vs xs) n:RvL w G (vs.take n) (xs.take n):=by
 refine⟨by simp[h.len],λv hv=>h.one v (RP hv),λi v x hv b=>?_⟩;rw[TV]at hv b;split at hv;rename_i hi;rw[QU hi]at b;exact h.rel i v x hv b;cases hv
def RvL.drop(h:RvL w G vs xs) n:RvL w G (vs.drop n) (xs.drop n):=by
 refine⟨by simp[h.len],λv hv=>h.one v (RQ hv),λi v x hv b=>?_⟩;rw[SA]at hv b;exact h.rel _ v x hv b
theorem RvL.splice(h:RvL w G vs xs)(c:RvL w G b ys) off:RvL w G (vs.take off++b++vs.drop (off+b.length)) (Ab.splice xs off ys):=by
 rw[mO,Tn,c.len];exact(h.take off).append (c.append (h.drop _))
def yV(h:V.okL p q xs)(b:V.okL p q ys) off:V.okL p q (splice xs off ys):=by
 grind [mO,aH,RP,RQ]
theorem aM4(h:∀v∈vs,v.oneCell'=true):RvL w G vs (vs.map .lit):=by
 refine⟨Ad,h,λi v x hv b=>?_⟩;rw[RN,hv]at b;simp at b;subst b;exact .lit v (h v (QZ hv))
def bC6{vs:List Value}:V.okL p q (vs.map .lit):=by
 grind [aH,dL]
def aK8(inv:Inv T Φ σ a w G)(e:(∀y∈cs,y.one=true)->RvL w G c.toList cs)(f:V.okL σ.hasB σ.hasA cs)(h:lM σ d cs K)
 (j:b= .ok (.value (.pointer (some ⟨w.heap.size,0,none⟩))) (w.alloc (.cells c t))):Out T Φ σ a K b:=by
 unfold lM at h;split at h
 ·rename_i i
  rw[bC]at h;let⟨g,h⟩:=aT h;have e:=e (dY.1 g);refine⟨_,_,_,_,_, .inl j,h,inv.lM i (t:=t) e f,?_,?_⟩
  ·have:=Rv.box (w:=w.alloc (.cells c t)) (G:={G with β:=upd G.β d w.heap.size,O:=upd G.O w.heap.size (.bx d)}) d 0
   simp[upd_same]at this;exact this
  ·simp[V.ok]
   exact⟨cs,upd_same _ _ _⟩
 ·exact h.elim
def dM8(inv:Inv T Φ σ a w G) t x(g:o.op= .box t x)(h:lM σ d (σ.ev x).cells K):Out T Φ σ a K ((execOp a.eval o).run P w):=by
 let⟨b,e⟩:=inv.ev x;exact aK8 inv (t:=t) (c:=(a.eval x).cells) (λf=>b.cells f) (sF e) h (by simp[execOp,g,Instr.box,newVar,newRow,newObj,Sem.run])
def aC3(j:bP T P)(k:t<T.n t):∃z,(zeroValue t).run P w= .ok z w/\z.cells.toList=(T.row t).zero/\(∀c∈(T.row t).zero,c.oneCell'=true)/\(T.row t).zero.length=(T.row t).size:=by
 let⟨i,b,l,m,z,e,f,g,h,_⟩:=(j t k).info;exact⟨z,by simp[zeroValue,typeInfo,b,e],f,g,h⟩
def cJ8(f:bP T P)(inv:Inv T Φ σ a w G) t(g:o.op= .alloc t)(i:t<T.n t)(h:lM σ d (mapR .lit (T.row t).zero) K):Out T Φ σ a K ((execOp a.eval o).run P w):=by
 let⟨z,j,b,e,_⟩:=aC3 (w:=w) f i;rw[dU,<-b]at h;exact aK8 inv (t:=t) (c:=z.cells) (λ_=>aM4 (by rw[b];exact e)) bC6 h (by simp[execOp,g,Instr.alloc,j,newVar,newRow,newObj,Sem.run])
def yJ(h:aH9 P t r)(g:r.kd= .struct):∃b,P.underlying t=some (.struct b)/\r.flds=b.toList.map (λf=>(f.offset,vI P f.type,kdOf (P.underlying f.type),f.type))/\(∀f∈b,∃i,P.info? f.type=some i/\i.size=vI P f.type):=by
 let⟨e,j,c,_,_,_,_,k⟩:=h.und;cases e<;>simp[kdOf]at c<;>simp_all
def jW(h:aH9 P t r)(e:r.kd= .slice):P.underlying t=some (.slice r.elem):=by
 let⟨c,f,b,_,g,_,_⟩:=h.und;cases c<;>simp[kdOf]at b<;>simp_all
def aR9(h:aH9 P t r)(e:r.kd= .array):P.underlying t=some (.array r.alen r.elem):=by
 let⟨c,f,b,_,_,g,_⟩:=h.und;cases c<;>simp[kdOf]at b<;>simp_all
def eT8(h:aH9 P t r)(e:r.kd= .map):P.underlying t=some (.map r.alen r.elem):=by
 let⟨c,f,b,_,_,_,g,_⟩:=h.und;cases c<;>simp[kdOf]at b<;>simp_all
def aF2(h:aH9 P t r)(hk:r.kd= .str):P.underlying t=some .string:=MF
def bY7(h:aH9 P t r)(f:r.kd= .int k):P.underlying t=some (.int k):=by
 let⟨c,e,b,_⟩:=h.und;rw[f]at b;cases c<;>simp[kdOf]at b;subst b;exact e
def iV(e:bP T P)(f:t<T.n t) w:(sizeOf t).run P w= .ok (T.row t).size w:=by
 let⟨i,b,c,_⟩:=(e t f).info;rw[bG2 b,c]
def yG(f:bP T P)(g:t<T.n t) w:(isAgg t).run P w= .ok (T.row t).agg w:=by
 let⟨b,c,_,e,_⟩:=(f t g).und;rw[e];cases b<;>simp[isAgg,dI c,aggB]
def bN6(v:bP T P)(x:s<T.n s)(c:(T.row s).flds[f]? =some (off,z,A))(y:z≠0)(g:(T.row s).kd= .struct) k:
 (Instr.fieldAt s (.pointer (some k)) f).run P w= .ok (.pointer (some (k.add off))) w:=by
 let⟨m,r,t,u⟩:=yJ (v s x) g;rw[t,RN]at c;cases b:m.toList[f]? with
 |none=>rw[b]at c;cases c
 |some l=>
  rw[b]at c;simp[Tj,SI,Prod.mk.injEq]at c;let⟨p,q,_⟩:=c;have e:m[f]? =some l:=by simpa using b
  let⟨i,hi,j⟩:=u l (by have:=QZ b;simpa using this);have h:i.size≠0:=by rw[j,q];exact y
  simp[Instr.fieldAt,dI r,e,Instr.sureAddr,fieldPlace,bG2 hi,h,p]
def aY3(C:bP T P)(inv:Inv T Φ σ a w G) s x f(H:o.op= .fieldAddr s x f)(J:s<T.n s)(h:jB (T.row s) (σ.ev x) f K):Out T Φ σ a K ((execOp a.eval o).run P w):=by
 let⟨l,h2⟩:=inv.ev x;unfold jB at h;split at h;rename_i off z L u B;rw[uN]at B;cases v:Nat.beq z 0 with
 |true=>rw[v]at h;exact h.elim
 |false=>
  rw[v]at h;have A:z≠0:=by rintro rfl;simp at v
  have b:∀e,a.eval x= .pointer (some e)->(execOp a.eval o).run P w= .ok (.value (.pointer (some (e.add off)))) w:=λe m=>by
   simp[execOp,H,m,bN6 C J B A u e]
  split at h;rename_i i of q;rw[q]at l h2;refine .plain inv (b _ l.bI6) h ?_ ET;rw[rY];exact .box i (of+off);rename_i cs q;rw[q]at l h2;let⟨e,cc,m,E,D,I⟩:=l.cW5;rw[bC,lQ]at h;refine .plain inv (b e m) h ?_ ?_;refine .fp _ _ (λj=>cc (off+j)) (λF=>?_) (λj y r=>?_) (λj y r=>?_);grind [add_block];rw[SA]at r;rw[add_add'];exact D _ y r;rw[SA]at r;exact I _ y r;grind [aH,RQ,V.ok];rename_i k g sz i of q;rw[q]at l h2;let⟨e,n,c,m,t⟩:=l.dA8;refine .plain inv (b _ m) h ?_ ET;rw[add_add',TS];exact .ae k g sz i (of+off) e n c t;exact h.elim
 exact h.elim
structure Here(w:World)(G:Gh)(ad:Addr)(xs:List V):Prop where
 out:∃cc:Nat->Value,At w ad cc xs/\∀(j:Nat) y,xs[j]? =some y->Rv w G (cc j) y
theorem dU3(k:bP T P)(s:t<T.n t)(z:Here w G i xs)(q:V.okL σ.hasB σ.hasA xs)(h:wB (T.row t) xs K):
 ∃v' v,(loadVar t i).run P w= .ok v' w/\K v []/\Rv w G v' v/\v.ok σ.hasB σ.hasA:=by
 let⟨cc,l,B⟩:=z.out;unfold wB at h;split at h
 ·rename_i b
  rw[bC,aD3,iL]at h;let⟨y,h⟩:=aT h;have g:(xs.take (T.row t).size).length=(T.row t).size:=by simpa [TJ]using y
  have m:(T.row t).size<=xs.length:=by rw[Rk]at g;omega
  have e:=run_loadCells (P:=P) w i (T.row t).size cc (λj A=>(l j _ (QX Aa)).1);refine⟨.agg ((List.range (T.row t).size).map cc).toArray,_,?_,h, .agg _ _ ?_ ?_ ?_,?_⟩
  ·simp[loadVar,yG k s,b,iV k s,e]
  ·simp[m]
  ·intro c f
   simp[List.mem_toArray,Rn,Tf]at f;obtain⟨j,A,rfl⟩:=f;exact(l j _ (QX Aa)).2
  ·grind
  ·grind [aH,RP,V.ok]
 ·rename_i b
  split at h
  ·rename_i x r
   rw[force_eq]at h;have u:=l 0 x Ad;rw[add_zero']at u;exact⟨cc 0,x,by simp[loadVar,yG k s,b,run_load,u.1],h,B 0 x Ad,aH.1 q x Ad⟩
  ·exact h.elim
def flat_get{l:List V}(b:∀x∈l,x.cells.length=sz)(hi:l[i]? =some x) j(c:j<sz):(l.flatMap V.cells)[i*sz+j]? =x.cells[j]? :=by
 induction l generalizing i with
 |nil=>simp at hi
 |cons y r f=>
  cases i<;>grind
theorem sH{l:List V}(b:∀x∈l,x.cells.length=sz):(l.flatMap V.cells).length=l.length*sz:=by
 induction l<;>grind
def Here.elem{l:List V}(k:∀x∈l,x.cells.length=sz)(g:Here w G e (l.flatMap V.cells))(hi:l[i]? =some x) off:Here w G (e.add (i*sz+off)) (x.cells.drop off):=by
 let⟨cc,f,h⟩:=g.out
 have key:∀ j  y ,(x.cells.drop off)[j]? =some y->(l.flatMap V.cells)[i*sz+off+j]? =some y:=by
  intro j y b;rw[SA]at b
  have c:off+j<sz:=by
   grind
  rw[TS,flat_get k hi _ c];exact b
 refine⟨λj=>cc (i*sz+off+j),λj y b=>?_,λj y b=>h _ y (key j y b)⟩;rw[add_add'];exact f _ y (key j y b)
def RvL.here(k:w.heap[g]? =some (.cells cur t i))(h:RvL w G (cur.toList.take n) xs):Here w G ⟨g,0,none⟩ xs:=by
 refine⟨λj=>cur.toList.getD j undef,λj y c=>?_,λj y c=>?_⟩;have b:j< (cur.toList.take n).length:=by rw[h.len];exact(QW.1 c).1
 have hj':j<cur.toList.length:=by rw[Rk]at b;omega
 have f:(cur.toList.take n)[j] =cur.toList[j] :=List.getElem_take;rw[rY,SX,cell_of_row w g j cur t i k];have e:cur.toList.getD j undef=cur.toList[j] :=FB;show cur[j]? =some (cur.toList.getD j undef)/\(cur.toList.getD j undef).oneCell'=true;rw[e];refine⟨Ad,?_⟩;rw[<-f];exact h.one _ (TL b);have b:j< (cur.toList.take n).length:=by rw[h.len];exact(QW.1 c).1
 have hj':j<cur.toList.length:=by rw[Rk]at b;omega
 have f:(cur.toList.take n)[j] =cur.toList[j] :=List.getElem_take;have e:cur.toList.getD j undef=cur.toList[j] :=FB;show Rv w G (cur.toList.getD j undef) y;rw[e,<-f];exact h.rel j _ y (QX b) c
def gW.reads(h:gW T w G k en)(i:en.kind≠ .dead):(G.av k en.gen= .slice none 0 0/\en.l=[])\/
 ∃ad c sz,G.av k en.gen= .slice (some ad) en.l.length c/\en.l.length<=c/\c<=maxLen/\(∀x∈en.l,x.cells.length=sz)/\Here w G ad (en.l.flatMap V.cells):=by
 have own:∀ {u ty l},gJ T w G k u ty l->(u= .slice none 0 0/\l=[])\/∃ad c sz,u= .slice (some ad) l.length c/\l.length<=c/\c<=maxLen/\(∀x∈l,x.cells.length=sz)/\Here w G ad (l.flatMap V.cells):=by
  intro u ty l h;rcases h with⟨h|⟨a,h⟩,f⟩|⟨b,cap,cur,h1,h2,h3,h4,h5,h6,h7,g⟩;exact .inl ⟨h,f⟩;subst f;exact .inr ⟨a,0,0,h,Rf _,RY _,(λx hx=>H8),⟨λ_=>undef,(λj y e=>by simp at e),(λj y e=>by simp at e)⟩⟩;exact .inr ⟨⟨b,0,none⟩,cap,_,h1,h4,h5,h7,g.here h3⟩
 have sl:∀ {u l},Rv w G u (.sl l)->(u= .slice none 0 0/\l=[])\/∃ad c sz,u= .slice (some ad) l.length c/\l.length<=c/\c<=maxLen/\(∀x∈l,x.cells.length=sz)/\Here w G ad (l.flatMap V.cells):=by
  intro u l h;exact OU
 unfold gW at h;split at h
 ·rename_i m;exact absurd m i
 ·exact sl h
 ·exact own h.2
 ·rcases h.2 with h|h
  ·exact own h
  ·exact sl h.1.wK
def cG1(hT:bP T P)(inv:Inv T Φ σ a w G) t x(ht:t<T.n t)(h:pW (T.row t) σ (σ.ev x) K):∃b v' v,a.eval x= .pointer (some b)/\(loadVar t b).run P w= .ok v' w/\K v []/\Rv w G v' v/\v.ok σ.hasB σ.hasA:=by
 let⟨l,s⟩:=inv.ev x
 have f:∀ b  xs ,a.eval x= .pointer (some b)->Here w G b xs->V.okL σ.hasB σ.hasA xs->wB (T.row t) xs K->∃b v' v,a.eval x= .pointer (some b)/\(loadVar t b).run P w= .ok v' w/\K v []/\Rv w G v' v/\v.ok σ.hasB σ.hasA:=by
  grind [dU3]
 unfold pW at h;split at h;rename_i i off q;rw[q]at l;split at h;rename_i cs m;let⟨c,tt,N,O,g3⟩:=inv.box i cs m;rw[lQ]at h;have U:=RvL.here N (n:=c.toList.length) (by rw[TM];exact O);refine f _ _ l.bI6 ?_ ?_ h;let⟨cc,Z,q2⟩:=U.out;refine⟨λj=>cc (off+j),λj y e=>?_,λj y e=>?_⟩;rw[SA]at e;have:=Z _ y e;simp_all [rY,SX];rw[SA]at e;exact q2 _ y e;have:=inv.wfB i cs m;rw[aH]at this⊢;grind;exact h.elim;rename_i cs q;rw[q]at l s;let⟨b,cc,A,_,Q,X⟩:=l.cW5;refine f b cs A ⟨cc,Q,X⟩ ?_ h;exact V.okL.imp (λ_ h=>h.elim) (λ_ _ h=>h.elim) _ s;rename_i k g sz i off q;rw[q]at l;split at h;rename_i en p;let⟨⟨S,R⟩,F⟩:=dX h;let⟨y,e,H⟩:=cO3 F;let⟨J,I⟩:=aT H;rw[iL]at J;have B:y.cells.length=sz:=by simpa [TJ]using J
 let⟨b,n,c,A,u⟩:=l.dA8;subst S;rcases(inv.arr k en p).reads R with⟨r,D⟩|⟨L,c',C,r,D,e3,E,M⟩;rw[D]at e;simp at e;rw[u]at r;cases r;have:C=sz:=by rw[<-E y (QZ e)];exact B
 subst this;rw[lQ]at I;refine f _ _ A (M.elem E e off) ?_ I;have W:=aH.1 (inv.wfA k en p) y (QZ e);have:=sF W;rw[aH]at this⊢;exact λz Y=>V.pure.ok (this z (RQ Y)) _ _;exact h.elim;exact h.elim
def cZ0(e:bP T P)(inv:Inv T Φ σ a w G) t x(i:o.op= .load t x)(j:t<T.n t)(h:pW (T.row t) σ (σ.ev x) K):Out T Φ σ a K ((execOp a.eval o).run P w):=by
 let⟨k,v',v,f,b,g,hv,c⟩:=cG1 e inv t x j h;exact .plain inv (by simp[execOp,i,f,Instr.loadAt,Instr.sureAddr,b]) g hv c
end
section
variable{T:Tab}{P:Program}{Φ:Fr}{σ:St}{a:Act}{w:World}{G:Gh}{K:VK}{o:Oper}{d:Nat}
theorem size_setRow g cs:(w.setRow g cs).heap.size=w.heap.size:=by simp[World.setRow]
def aN1(f:bP T P)(j:t<T.n t)(k:w.heap[g]? =some (.cells cur b (0,0)))(i:v.cells.size=(T.row t).size)(hl:off+v.cells.size<=cur.size)(e:∀c∈v.cells.toList,c.oneCell'=true):
 (storeVar t ⟨g,off,none⟩ v).run P w= .ok () (w.setRow g (cur.toList.take off++v.cells.toList++cur.toList.drop (off+v.cells.toList.length)).toArray):=by
 have:=run_storeCells_at (P:=P) g off b v.cells.toList 0 cur w k BG e;simp[storeVar,iV f j,i,this]
theorem aF8{y:V}(h:y.atom=true)(b:y.ok p q):y.pure:=by
 cases y with
 |lit u=>simp[V.pure,V.ok]
 |sl l=>simp[V.pure,V.ok]at b⊢;exact b
 |cap l=>simp[V.pure,V.ok]at b⊢;exact b
 |fn g l=>exact fn_atom_pure h b
 |_=>simp[V.atom]at h
def eC3{y:V}(h:y.atom=true):y.one=true:=by cases y<;>simp_all [V.atom,V.one]
theorem bE1{y:V}(h:y.atom=true):y.cells=[y] :=by cases y<;>simp_all [V.atom,V.cells]
def eA3{l:List V}(c:∀x∈l,x.cells.length=sz)(hi:l[i]? =some x)(b:x'.cells=splice x.cells off ys)(f:off+ys.length<=sz):
 (l.set i x').flatMap V.cells=splice (l.flatMap V.cells) (i*sz+off) ys:=by
 induction l generalizing i with
 |nil=>simp at hi
 |cons y r j=>
  have g:=c y Ad;rw[mO]at b⊢;cases i with
  |zero=>
   grind
  |succ i=>
   have:=j (λx hx=>c x BI) hi;rw[mO]at this;have e:(i+1)*sz+off=y.cells.length+(i*sz+off):=by rw[g,TY];omega
   simp only[List.set_cons_succ,Tm,this,e,List.take_append,List.drop_append];have k:List.take (y.cells.length+(i*sz+off)) y.cells=y.cells:=Um Aa;have m:List.drop (y.cells.length+(i*sz+off)+ys.length) y.cells=[] :=List.drop_of_length_le Aa;have n:y.cells.length+(i*sz+off)+ys.length-y.cells.length=i*sz+off+ys.length:=Aa;rw[k,m,Nat.add_sub_cancel_left,n];simp
def cJ7(hT:bP T P)(inv:Inv T Φ σ a w G)(t:TypeId)(x y:Operand)(ho:o.op= .store t x y)(ht:t<T.n t)(h:qU (T.row t) σ (σ.ev x) (σ.ev y) K):Out T Φ σ a K ((execOp a.eval o).run P w):=by
 obtain⟨h1,h2⟩:=inv.ev x;obtain⟨y1,y2⟩:=inv.ev y;unfold qU at h;split at h;rename_i i off hx;rw[hx]at h1;split at h;rename_i cs D;obtain⟨hc,Y⟩:=aT h;clear h;simp only[Ru,iL]at hc;obtain⟨⟨c1,c2⟩,c3⟩:=hc;have af:(σ.ev y).cells.length=(T.row t).size:=Gz;have L:off+(T.row t).size<=cs.length:=by simpa using c2
 rw[bC]at Y;have U:=y1.cells (dY.1 c3);obtain⟨c,tt,g1,g2,g3⟩:=inv.box i cs D;have m:(a.eval y).cells.size=(T.row t).size:=by have:=U.len;simp at this;omega
 have aq:c.size=cs.length:=by have:=g2.len;simpa using this
 have s:=aN1 (P:=P) hT ht g1 (v:=a.eval y) (off:=off) m Aa U.one;refine⟨undef,w.setRow (G.β i) (c.toList.take off++(a.eval y).cells.toList++c.toList.drop (off+(a.eval y).cells.toList.length)).toArray,_,_,G, .inr ⟨by simp[execOp,ho,h1.bI6,Instr.storeAt,Instr.sureAddr,s],rfl⟩,Y,?_, .bot _,BN⟩;refine inv.eJ4 D (c:=(c.toList.take off++(a.eval y).cells.toList++c.toList.drop (off+(a.eval y).cells.toList.length)).toArray) (t:=tt) ?_ (yV (inv.wfB i cs D) (sF y2) off) (TN w _ c _ tt _ g1) (λb hb=>TA w _ b _ hb) (size_setRow _ _) rfl rfl rfl;simpa using g2.splice U off;exact h.elim;rename_i k g sz i off hx;rw[hx]at h1;split at h;rename_i en E;obtain⟨⟨hg,aa⟩,Y⟩:=dX h;obtain⟨z,W,h4⟩:=cO3 Y;obtain⟨hc,h5⟩:=aT h4;clear h Y h4;simp only[Ru,iL]at hc;obtain⟨⟨⟨c1,c2⟩,c4⟩,c3⟩:=hc;have af:(σ.ev y).cells.length=(T.row t).size:=Gz;have L:off+(T.row t).size<=z.cells.length:=by simpa using c2
 have ag:z.cells.length=sz:=by simpa [TJ]using c4
 rw[bC]at h5;have M:=dY.1 c3;have U:=y1.cells (λu I=>eC3 (M u I));obtain⟨ad,n,c,he,Z⟩:=h1.dA8;subst hg;have F:=inv.arr k en E;have an:=F;unfold gW at F;rw[aa]at F;obtain⟨ai,ac⟩:=F;rcases ac with⟨e1,X⟩|⟨b,cap,cur,e1,X,e3,e4,e5,e6,e7,e8⟩;rw[X]at W;simp at W;rw[Z]at e1;cases e1;have J:sz=(T.row en.ty).size:=by rw[<-ag];exact e7 z (QZ W)
 have m:(a.eval y).cells.size=(T.row t).size:=by have:=U.len;simp at this;omega
 have hi:i<en.l.length:=(QW.1 W).1;have al:i*sz+sz<=en.l.length*sz:=by rw[<-TY];exact UX _ hi
 have ah:en.l.length*sz<=c*sz:=UX _ e4;have D:cur.size=c*sz:=by rw[J];exact e6
 have s:=aN1 (P:=P) hT ht e3 (v:=a.eval y) (off:=i*sz+off) m Aa U.one
 have C:(aC4 z (splice z.cells off (σ.ev y).cells)).cells=splice z.cells off (σ.ev y).cells:=by
  have f:(splice z.cells off (σ.ev y).cells).length=z.cells.length:=by
   rw[mO];simp;omega
  unfold aC4;split;rfl;rename_i am;have A:z.cells=[z] :=by cases z<;>simp_all [V.cells]
  rw[A]at f;match H:splice z.cells off (σ.ev y).cells with
  | [] =>rw[A]at H;rw[H]at f;simp at f
  |u::r=>
   have hr:r=[] :=by
    simp_all
   subst hr;rw[A]at L;simp only[Rj]at L;by_cases h0:(T.row t).size=0;have hn:(σ.ev y).cells=[] :=TQ Aa;rw[hn,A,mO]at H;simp_all;have ab:off=0:=by omega
   subst ab;grind [mO,bE1]
 have N:=eA3 e7 W (x':=aC4 z (splice z.cells off (σ.ev y).cells)) (off:=off) (ys:=(σ.ev y).cells) C Aa
 have R:bM (en.l.set i (aC4 z (splice z.cells off (σ.ev y).cells))):=by
  have ae:=aH.1 (inv.wfA k en E);refine aH.2 ?_;intro u I;rcases List.mem_or_eq_of_mem_set I with I|I;exact ae u I;subst I;have ak:=sF (ae z (QZ W))
  have aj:bM (σ.ev y).cells:=by
   refine aH.2 ?_;exact λq S=>aF8 (M q S) (aH.1 (sF y2) q S)
  have hs:=yV ak aj off;unfold aC4;split;simp only[V.ok];exact hs;split;rename_i q r S;rw[S]at hs;exact hs.1;simp only[V.ok]
 refine⟨undef,w.setRow b (cur.toList.take (i*sz+off)++(a.eval y).cells.toList++cur.toList.drop (i*sz+off+(a.eval y).cells.toList.length)).toArray,_,_,G, .inr ⟨?_,rfl⟩,h5,?_, .bot _,BN⟩;rw[rY,SX]at he;simp[execOp,ho,he,Instr.storeAt,Instr.sureAddr,s]
 have Q:Keep w (w.setRow b (cur.toList.take (i*sz+off)++(a.eval y).cells.toList++cur.toList.drop (i*sz+off+(a.eval y).cells.toList.length)).toArray) G G:=
  ⟨λ_ h=>h,λb' B=>TA w _ b' _ (λe=>by subst e;rw[X]at B;cases B)⟩
 refine inv.zU (k:=k) (en:={en with l:=en.l.set i (aC4 z (splice z.cells off (σ.ev y).cells))}) (av':=G.av) (O':=G.O) (λg ⟨ao,q1,q2⟩=>by rw[E]at q1;cases q1;exact q2) (λ_ _ _=>rfl) R ?_ (λ_ _ _=>rfl) (λ_=> .inl rfl)
  (λb' _ B=>TA w _ b' _ (λe=>by subst e;exact B X)) Hg rfl rfl rfl
 unfold gW;simp only[aa];refine⟨ai, .inr ⟨b,c,_,?_,X,TN w b cur _ _ _ e3,by simpa using e4,e5,?_,?_,?_⟩⟩;simpa using Z;grind;grind [List.mem_or_eq_of_mem_set,mO];rw[N];have H:=(e8.splice U (i*sz+off)).keep Q (p:=λ_=>False) (q:=λ_ _=>False) ?_ (λ_ h=>h.elim) (λ_ _ h=>h.elim);have ar:(a.eval y).cells.toList.length=(T.row t).size:=by simpa using m
 have e9:List.take ((en.l.set i (aC4 z (splice z.cells off (σ.ev y).cells))).length*(T.row en.ty).size) (cur.toList.take (i*sz+off)++(a.eval y).cells.toList++cur.toList.drop (i*sz+off+(a.eval y).cells.toList.length))=
  List.take (i*sz+off) (List.take (en.l.length*(T.row en.ty).size) cur.toList)++(a.eval y).cells.toList++List.drop (i*sz+off+(a.eval y).cells.toList.length) (List.take (en.l.length*(T.row en.ty).size) cur.toList):=by
  rw[TK,<-J];rw[List.take_append,List.take_append,Ve,Ve,Vf];have q1:min (en.l.length*sz) (i*sz+off)=i*sz+off:=Aa;have q2:min (i*sz+off) (en.l.length*sz)=i*sz+off:=Aa;rw[q1,q2];have q3:(List.take (i*sz+off) cur.toList).length=i*sz+off:=by rw[Rk];simp;omega
  rw[QY,q3,Um (l:=(a.eval y).cells.toList) Aa]
 simp_all;refine yV ?_ ?_ _;rw[aH];intro u I;obtain⟨j,hj⟩:=RF I;exact dF (inv.wfA k en E) hj;rw[aH];exact λq S=>aF8 (M q S) (aH.1 (sF y2) q S);exact h.elim;exact h.elim
end
end Go.Ab
