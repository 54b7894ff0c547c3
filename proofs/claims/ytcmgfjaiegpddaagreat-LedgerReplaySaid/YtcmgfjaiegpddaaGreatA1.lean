/- Lemmas. -/
import Derived.Test.YtcmgfjaiegpddaaGreatA0
import Derived.WalkKit
import Derived.Deep.Draws
import Derived.Laws.AppendOwn
import Derived.MapKept
import Derived.OrdersIn
import Derived.TacticsIn
import Derived.RangeFuncLeaves
import Derived.RangeFuncRecord
import Derived.RangeFuncSeq
set_option linter.all false
noncomputable section
namespace Go.Ab
inductive V where
 |bot
 |lit (u:Value)
 |agg (cs:List V)
 |tup (cs:List V)
 |sl (l:List V)
 |cap (l:List V)
 |own (e:TypeId) (l:List V)
 |ap (e:TypeId) (l:List V)
 |box (i off:Nat)
 |arr (k g:Nat)
 |fp (cs:List V)
 |ae (k g sz i off:Nat)
 |fn (g:FuncId) (caps:List V)
inductive AK where
 |own|ap|frz|dead
structure AE where
 gen:Nat
 kind:AK
 ty:TypeId
 l:List V
structure St where
 env:Nat->V
 bx:Nat->Option (List V)
 ar:Nat->Option AE
inductive Mod where
 |b (i:Nat) (cs:List V)
 |a (k:Nat) (en:AE)
def upd{α:Type}(f:Nat->α)(s:Nat)(x:α):Nat->α:=λt=>cond (Nat.beq t s) x (f t)
inductive Kd where
 |bool|int (k:IntKind)|str|slice|struct|array|map|ptr|other
structure Row where
 size:Nat
 bytes:Nat
 agg:Bool
 kd:Kd
 elem:TypeId
 alen:Nat
 flds:List (Nat×Nat×Kd×TypeId)
 zero:List Value
 eq:Bool
structure Tab where
 n:TypeId->Nat
 row:TypeId->Row
 lay:World->(Nat->Prop)->Prop
 lay_mono:∀ {w w':World} {F F':Nat->Prop},(∀b,F b->F' b/\w'.heap[b]? =w.heap[b]?)->lay w F->lay w' F'
 ref:FuncId->Bool
def V.cells:V->List V
 | .agg cs=>cs
 |x=> [x]
def nth{α:Type}(l:List α):Nat->Option α:=
 List.rec (motive:=λ_=>Nat->Option α) (λ_=>none) (λx _ ih n=>cond (Nat.beq n 0) (some x) (ih (Nat.pred n))) l
def rO{α:Type}(l:List α):Nat->List α:=
 List.rec (motive:=λ_=>Nat->List α) (λ_=> []) (λx _ ih n=>cond (Nat.beq n 0) [] (x::ih (Nat.pred n))) l
def jX{α:Type}(l:List α):Nat->List α:=
 List.rec (motive:=λ_=>Nat->List α) (λ_=> []) (λx r ih n=>cond (Nat.beq n 0) (x::r) (ih (Nat.pred n))) l
def appR{α:Type}(l m:List α):List α:=List.rec (motive:=λ_=>List α) m (λx _ ih=>x::ih) l
def lenR{α:Type}(l:List α):Nat:=List.rec (motive:=λ_=>Nat) 0 (λ_ _ ih=>Nat.succ ih) l
def mapR{α β:Type}(f:α->β)(l:List α):List β:=List.rec (motive:=λ_=>List β) [] (λx _ ih=>f x::ih) l
def allR{α:Type}(f:α->Bool)(l:List α):Bool:=List.rec (motive:=λ_=>Bool) true (λx _ ih=>cond (f x) ih false) l
def V.frz(i:Nat)(cs:List V)(x:V):V:=
 V.rec (motive_1:=λ_=>V) (motive_2:=λ_=>List V)
   .bot (λu=> .lit u) (λ_ ih=> .agg ih) (λ_ ih=> .tup ih) (λl _=> .sl l) (λl _=> .cap l) (λe l _=> .own e l) (λe l _=> .ap e l)
   (λj off=>cond (Nat.beq j i) (.fp (jX cs off)) (.box j off)) (λk g=> .arr k g) (λl _=> .fp l) (λk g z i o=> .ae k g z i o) (λg _ ih=> .fn g ih)
   [] (λ_ _ ih1 ih2=>ih1::ih2) x
def frzB(i:Nat)(cs:List V)(bx:Nat->Option (List V)):Nat->Option (List V):=λj=>cond (Nat.beq j i) none (match bx j with|none=>none|some l=>some (mapR (V.frz i cs) l))
def dD8:Value->V
 | .agg cs=>cond (allR Value.oneCell' cs.toList) (.agg (mapR .lit cs.toList)) .bot
 | .tuple _=> .bot
 |v=> .lit v
def St.ev(σ:St):Operand->V
 | .tmp t=>σ.env t
 | .const v=>dD8 v
 | .global _=> .bot
 | .func f=> .fn f []
def Mod.app(σ:St):Mod->St
 | .b i cs=> {σ with bx:=upd σ.bx i (some cs)}
 | .a k en=> {σ with ar:=upd σ.ar k (some en)}
def St.apps(σ:St)(ms:List Mod):St:=ms.foldl Mod.app σ
def St.set(σ:St)(d:Nat)(v:V):St:={σ with env:=upd σ.env d v}
def St.put(σ:St)(d:Option Nat)(v:V)(ms:List Mod):St:=
 match d with
 |some d=>(σ.apps ms).set d v
 |none=>σ.apps ms
structure arith(k:IntKind)(n:Int)(K:Int->Prop):Prop where
 out:K (k.wrap n)
structure idx(l:List V)(i:Nat)(K:V->Prop):Prop where
 out:∃x,l[i]? =some x/\K x
structure need(p:Prop)(K:Prop):Prop where
 out:p/\K
def branch(b:Bool)(A B:Prop):Prop:=match b with|true=>A|false=>B
@[irreducible] def ltB(a b:Int):Bool:= @decide (a<b) (Classical.propDecidable _)
@[irreducible] def leB(a b:Int):Bool:= @decide (a<=b) (Classical.propDecidable _)
@[irreducible] def eqB(a b:Int):Bool:= @decide (a=b) (Classical.propDecidable _)
@[irreducible] def eqBB(a b:Bool):Bool:=a==b
@[irreducible] def eqS(a b:ByteArray):Bool:=a.toList==b.toList
@[irreducible] def eqSB(a b:ByteArray):Bool:=a==b
@[irreducible] def ltS(a b:ByteArray):Bool:=Op.bytesLess a.toList b.toList
@[irreducible] def andB(a b:Bool):Bool:=a&&b
@[irreducible] def maxI(a b:Int):Int:= @ite _ (b>a) (Classical.propDecidable _) b a
@[irreducible] def minI(a b:Int):Int:= @ite _ (b<a) (Classical.propDecidable _) b a
@[irreducible] def shrI(k:IntKind)(a b:Int):Int:=a.fdiv (2^(min b.toNat k.bits))
@[irreducible] def shlI(k:IntKind)(a b:Int):Int:=a*2^(min b.toNat k.bits)
@[irreducible] def orI(k:IntKind)(a b:Int):Int:=k.wrap (BitVec.ofInt k.bits a|||BitVec.ofInt k.bits b).toNat
@[irreducible] def xorI(k:IntKind)(a b:Int):Int:=k.wrap (BitVec.ofInt k.bits a^^^BitVec.ofInt k.bits b).toNat
@[irreducible] def andI(k:IntKind)(a b:Int):Int:=k.wrap (BitVec.ofInt k.bits a&&&BitVec.ofInt k.bits b).toNat
@[irreducible] def notI(k:IntKind)(a:Int):Int:=xorI k (if k.signed then-1 else k.max) a
@[irreducible] def byteAt(s:ByteArray)(i:Nat):Int:=((s[i]?).getD 0).toNat
def lC(k:IntKind)(n:Int):V:= .lit (.int k n)
def B(b:Bool):V:= .lit (.bool b)
def force(v:V)(K:V->Prop):Prop:=
 match v with
 | .bot=>K .bot
 | .lit u=>K (.lit u)
 | .agg cs=>K (.agg cs)
 | .tup cs=>K (.tup cs)
 | .sl l=>K (.sl l)
 | .cap l=>K (.cap l)
 | .own e l=>K (.own e l)
 | .ap e l=>K (.ap e l)
 | .box i o=>K (.box i o)
 | .arr k g=>K (.arr k g)
 | .fp cs=>K (.fp cs)
 | .ae k g z i o=>K (.ae k g z i o)
 | .fn g cs=>K (.fn g cs)
def bJ(l:List V):(List V->Prop)->Prop:=
 List.rec (motive:=λ_=>(List V->Prop)->Prop) (λK=>K []) (λx _ ih K=>force x λx'=>ih λr'=>K (x'::r')) l
def splice(cs:List V)(off:Nat)(xs:List V):List V:=appR (rO cs off) (appR xs (jX cs (off+lenR xs)))
def V.still:V->Bool
 | .lit _=>true
 | .fp _=>true
 |_=>false
def isMapC(cs:List V):Bool:=match cs with| [.ap 0 [], .lit _, .sl _] =>true|_=>false
def isFnC(cs:List V):Bool:=match cs with| .ap _ _::_=>false|_=>true
def V.atom:V->Bool
 | .lit _=>true
 | .sl _=>true
 | .cap _=>true
 | .fn _ cs=>cond (isMapC cs) true (allR V.still cs)
 |_=>false
def V.one:V->Bool
 | .lit _=>true
 | .sl _=>true
 | .cap _=>true
 | .arr _ _=>true
 | .box _ _=>true
 | .fp _=>true
 | .ae _ _ _ _ _=>true
 | .fn _ _=>true
 |_=>false
abbrev VK:=V->List Mod->Prop
def bA8(c a b:V)(K:VK):Prop:=
 match c with
 | .lit (.bool t)=>branch t (force a λv=>K v []) (force b λv=>K v [])
 |_=>False
def unVC(u:UnOp)(x:V)(K:VK):Prop:=
 match u,x with
 | .not, .lit (.bool t)=>K (B (!t)) []
 | .neg, .lit (.int k n)=>arith k (0-n) λm=>K (lC k m) []
 | .xor, .lit (.int k n)=>K (lC k (notI k n)) []
 |_,_=>False
def cM6(op:BinOp)(k:IntKind)(a b:Int)(K:VK):Prop:=
 match op with
 | .add=>arith k (a+b) λn=>K (lC k n) []
 | .sub=>arith k (a-b) λn=>K (lC k n) []
 | .mul=>arith k (a*b) λn=>K (lC k n) []
 | .quo=>need (b≠0) (arith k (a.tdiv b) λn=>K (lC k n) [])
 | .rem=>need (b≠0) (K (lC k (a.tmod b)) [])
 | .shr=>need (0<=b) (K (lC k (shrI k a b)) [])
 | .shl=>need (0<=b) (arith k (shlI k a b) λn=>K (lC k n) [])
 | .or=>K (lC k (orI k a b)) []
 | .xor=>K (lC k (xorI k a b)) []
 | .and=>K (lC k (andI k a b)) []
 | .lss=>K (B (ltB a b)) []
 | .gtr=>K (B (ltB b a)) []
 | .leq=>K (B (leB a b)) []
 | .geq=>K (B (leB b a)) []
 | .eql=>K (B (eqB a b)) []
 | .neq=>K (B (!eqB a b)) []
 |_=>False
def shVC(op:BinOp)(k:IntKind)(a b:Int)(K:VK):Prop:=
 match op with
 | .shr=>need (0<=b) (K (lC k (shrI k a b)) [])
 | .shl=>need (0<=b) (arith k (shlI k a b) λn=>K (lC k n) [])
 |_=>False
def ptrVC(op:BinOp)(kd:Kd)(K:VK):Prop:=
 match op,kd with
 | .eql, .ptr=>K (B false) []
 | .neq, .ptr=>K (B true) []
 |_,_=>False
def cH0(op:BinOp)(a b:ByteArray)(K:VK):Prop:=
 match op with
 | .add=>need (a.size+b.size<=9223372036854775807) (K (.lit (.string (a++b))) [])
 | .eql=>K (B (eqS a b)) []
 | .neq=>K (B (!eqS a b)) []
 | .lss=>K (B (ltS a b)) []
 | .gtr=>K (B (!(ltS a b||eqS a b))) []
 | .leq=>K (B (ltS a b||eqS a b)) []
 | .geq=>K (B (!ltS a b)) []
 |_=>False
def bG1(op:BinOp)(kd:Kd)(a b:Bool)(K:VK):Prop:=
 match op,kd with
 | .eql, .bool=>K (B (eqBB a b)) []
 | .neq, .bool=>K (B (!eqBB a b)) []
 |_,_=>False
def kX(T:Tab)(sub:TypeId->List V->List V->Option Bool)(fs:List (Nat×Nat×Kd×TypeId)):List V->List V->Option Bool:=
 List.rec (motive:=λ_=>List V->List V->Option Bool) (λ_ _=>some true)
  (λf _ ih xs ys=>match f.2.2.1 with
   | .struct=>match Nat.blt f.2.2.2 (T.n f.2.2.2),sub f.2.2.2 (rO (jX xs f.1) f.2.1) (rO (jX ys f.1) f.2.1)with
     |true,some b1=>(ih xs ys).map (andB b1)
     |_,_=>none
   | .array=>match Nat.blt f.2.2.2 (T.n f.2.2.2),sub f.2.2.2 (rO (jX xs f.1) f.2.1) (rO (jX ys f.1) f.2.1)with
     |true,some b1=>(ih xs ys).map (andB b1)
     |_,_=>none
   |kd=>match nth xs f.1,nth ys f.1,kd with
    |some (.lit (.int k a)),some (.lit (.int k' b)), .int _=>cond (decide (k=k')) ((ih xs ys).map (andB (eqB a b))) none
    |some (.lit (.string a)),some (.lit (.string b)), .str=>(ih xs ys).map (andB (eqSB a b))
    |some (.lit (.bool a)),some (.lit (.bool b)), .bool=>(ih xs ys).map (andB (eqBB a b))
    |_,_,_=>none) fs
def aZ5(z:Nat)(kd:Kd)(e:TypeId)(n:Nat):List (Nat×Nat×Kd×TypeId):=Nat.rec (motive:=λ_=>List (Nat×Nat×Kd×TypeId)) [] (λi ih=>appR ih [(i*z,z,kd,e)]) n
def eqT(T:Tab)(n:Nat):TypeId->List V->List V->Option Bool:=
 Nat.rec (motive:=λ_=>TypeId->List V->List V->Option Bool) (λ_ _ _=>none)
  (λ_ ih t xs ys=>cond (T.row t).eq (match(T.row t).kd with
   | .struct=>kX T ih (T.row t).flds xs ys
   | .array=>cond (Nat.blt (T.row t).elem (T.n (T.row t).elem)) (kX T ih (aZ5 (T.row (T.row t).elem).size (T.row (T.row t).elem).kd (T.row t).elem (T.row t).alen) xs ys) none
   |_=>none) none) n
def aL1(T:Tab)(op:BinOp)(t:TypeId)(xs ys:List V)(K:VK):Prop:=
 match op with
 | .eql=>need ((T.row t).eq=true) (match eqT T 4 t xs ys with|some b=>K (B b) [] |none=>False)
 | .neq=>need ((T.row t).eq=true) (match eqT T 4 t xs ys with|some b=>K (B (!b)) [] |none=>False)
 |_=>False
def bD7(T:Tab)(op:BinOp)(t:TypeId)(x y:V)(K:VK):Prop:=
 match x,y with
 | .lit (.int k a), .lit (.int k' b)=>cond (decide (k=k')) (cM6 op k a b K) (shVC op k a b K)
 | .lit (.string a), .lit (.string b)=>cH0 op a b K
 | .lit (.bool a), .lit (.bool b)=>cond (Nat.blt t (T.n t)) (bG1 op (T.row t).kd a b K) False
 | .agg xs, .agg ys=>cond (Nat.blt t (T.n t)) (aL1 T op t xs ys K) False
 | .box _ _, .lit (.pointer none)=>cond (Nat.blt t (T.n t)) (ptrVC op (T.row t).kd K) False
 |_,_=>False
def lM(σ:St)(d:Nat)(cs:List V)(K:VK):Prop:=
 match σ.bx d with
 |none=>bJ cs λcs=>cond (allR V.one cs) (K (.box d 0) [.b d cs]) False
 |some _=>False
def jB(r:Row)(x:V)(f:Nat)(K:VK):Prop:=
 match r.kd,nth r.flds f with
 | .struct,some (o,z,_)=>cond (Nat.beq z 0) False (match x with
   | .box i off=>K (.box i (off+o)) []
   | .fp cs=>bJ (jX cs o) λcs=>K (.fp cs) []
   | .ae k g sz i off=>K (.ae k g sz i (off+o)) []
   |_=>False)
 |_,_=>False
def wB(r:Row)(cs:List V)(K:VK):Prop:=
 match r.agg with
 |true=>bJ (rO cs r.size) λxs=>cond (Nat.beq (lenR xs) r.size) (K (.agg xs) []) False
 |false=>match cs with
  |x::_=>force x λv=>K v []
  | [] =>False
def aM2(T:Tab)(r:Row)(x:V)(f:Nat)(K:VK):Prop:=
 match r.kd,nth r.flds f,x with
 | .struct,some (o,_,_,ty), .agg cs=>cond (Nat.blt ty (T.n ty)) (wB (T.row ty) (jX cs o) K) False
 |_,_,_=>False
def pW(r:Row)(σ:St)(x:V)(K:VK):Prop:=
 match x with
 | .box i off=>match σ.bx i with
   |some cs=>wB r (jX cs off) K
   |none=>False
 | .fp cs=>wB r cs K
 | .ae k g sz i off=>match σ.ar k with
   |some en=>need (en.gen=g/\en.kind≠ .dead) (idx en.l i λx=>cond (Nat.beq (lenR x.cells) sz) (wB r (jX x.cells off) K) False)
   |none=>False
 |_=>False
def aC4(x:V)(cs:List V):V:=
 match x with
 | .agg _=> .agg cs
 |_=>match cs with
  |y::_=>y
  | [] => .bot
def qU(r:Row)(σ:St)(x y:V)(K:VK):Prop:=
 match x with
 | .box i off=>match σ.bx i with
   |some cs=>cond (Nat.beq (lenR y.cells) r.size&&Nat.ble (off+r.size) (lenR cs)&&allR V.one y.cells) (bJ (splice cs off y.cells) λcs=>K .bot [.b i cs]) False
   |none=>False
 | .ae k g sz i off=>match σ.ar k with
   |some en=>need (en.gen=g/\en.kind= .own) (idx en.l i λx=>
    cond (Nat.beq (lenR y.cells) r.size&&Nat.ble (off+r.size) (lenR x.cells)&&Nat.beq (lenR x.cells) sz&&allR V.atom y.cells)
     (bJ (splice x.cells off y.cells) λcs=>K .bot [.a k {en with l:=en.l.set i (aC4 x cs)}]) False)
   |none=>False
 |_=>False
def gI(T:Tab)(r:Row)(σ:St)(x i:V)(K:VK):Prop:=
 match r.kd,i with
 | .slice, .lit (.int _ n)=>match x with
   | .sl l=>need (0<=n/\n<l.length) (idx l n.toNat λx=>bJ x.cells λcs=>cond (Nat.beq (lenR cs) (T.row r.elem).size&&Nat.blt r.elem (T.n r.elem)) (K (.fp cs) []) False)
   | .cap l=>need (0<=n/\n<l.length) (idx l n.toNat λx=>bJ x.cells λcs=>cond (Nat.beq (lenR cs) (T.row r.elem).size&&Nat.blt r.elem (T.n r.elem)) (K (.fp cs) []) False)
   | .arr k g=>match σ.ar k with
     |some en=>need (en.gen=g/\en.kind≠ .dead/\0<=n/\n<en.l.length) (cond (Nat.beq en.ty r.elem&&Nat.blt r.elem (T.n r.elem)) (K (.ae k g (T.row r.elem).size n.toNat 0) []) False)
     |none=>False
   |_=>False
 | .array, .lit (.int _ (.ofNat n))=>match x with
   | .box i off=>cond (Nat.blt n r.alen&&Nat.blt r.elem (T.n r.elem)) (K (.box i (off+n*(T.row r.elem).size)) []) False
   | .fp cs=>cond (Nat.blt n r.alen&&Nat.blt r.elem (T.n r.elem)) (bJ (jX cs (n*(T.row r.elem).size)) λcs=>K (.fp cs) []) False
   |_=>False
 |_,_=>False
def aM6(T:Tab)(r:Row)(x i:V)(K:VK):Prop:=
 match r.kd,x,i with
 | .str, .lit (.string s), .lit (.int _ n)=>need (0<=n/\n<s.size) (K (lC .u8 (byteAt s n.toNat)) [])
 | .array, .agg cs, .lit (.int _ (.ofNat n))=>cond (Nat.blt n r.alen&&Nat.blt r.elem (T.n r.elem)) (wB (T.row r.elem) (jX cs (n*(T.row r.elem).size)) K) False
 |_,_,_=>False
def lF(σ:St)(x:V)(K:List V->Prop):Prop:=
 match x with
 | .sl l=>K l
 | .cap l=>K l
 | .lit (.slice none 0 0)=>K []
 | .arr k g=>match σ.ar k with
   |some en=>need (en.gen=g/\en.kind≠ .dead) (K en.l)
   |none=>False
 |_=>False
def lV(σ:St)(x:V)(K:List V->Prop):Prop:=
 match x with
 | .sl l=>K l
 | .cap l=>K l
 | .lit (.slice none 0 0)=>K []
 | .arr k g=>match σ.ar k with
   |some en=>need (en.gen=g/\en.kind= .frz) (K en.l)
   |none=>False
 |_=>False
def aE9(σ:St)(x:V)(K:VK):Prop:=
 match x with
 | .lit (.slice none 0 0)=>K (lC .i64 0) []
 | .sl l=>K (lC .i64 l.length) []
 | .cap l=>K (lC .i64 l.length) []
 | .arr k g=>match σ.ar k with
   |some en=>need (en.gen=g/\en.kind≠ .dead) (K (lC .i64 en.l.length) [])
   |none=>False
 |_=>False
def aI4(x:V)(K:VK):Prop:=
 match x with
 | .lit (.string s)=>K (lC .i64 s.size) []
 |_=>False
def wZ(x:V)(i:Nat)(K:VK):Prop:=
 match x with
 | .tup cs=>match cs[i]? with
   |some v=>force v λv=>K v []
   |none=>False
 |_=>False
def oI(place:Nat->Option (Nat×Nat))(σ:St)(ps:List (Nat×Operand)):List V->(List V->Prop)->Prop:=
 List.rec (motive:=λ_=>List V->(List V->Prop)->Prop) (λcs K=>bJ cs K)
  (λp _ ih cs K=>match place p.1 with
   |some (o,z)=>cond (Nat.beq (lenR (σ.ev p.2).cells) z&&Nat.ble (o+z) (lenR cs)&&allR V.one (σ.ev p.2).cells) (ih (splice cs o (σ.ev p.2).cells) K) False
   |none=>False) ps
def vO(T:Tab)(r:Row)(σ:St)(ps:List (Nat×Operand))(K:VK):Prop:=
 match r.kd with
 | .struct=>oI (λi=>(nth r.flds i).map λf=>(f.1,f.2.1)) σ ps (mapR .lit r.zero) λcs=>K (.agg cs) []
 | .array=>cond (Nat.blt r.elem (T.n r.elem)) (oI (λi=>some (i*(T.row r.elem).size,(T.row r.elem).size)) σ ps (mapR .lit r.zero) λcs=>K (.agg cs) []) False
 |_=>False
def cD6(agg:Bool)(z:Nat)(cs:List V):V:=match agg with|true=>V.agg (rO cs z)|false=>(match cs with|x::_=>x| [] => .bot)
def chunk(agg:Bool)(z:Nat)(n:Nat):List V->List V:=
 Nat.rec (motive:=λ_=>List V->List V) (λ_=> []) (λ_ ih cs=>cD6 agg z cs::ih (jX cs z)) n
def repR{α:Type}(n:Nat)(l:List α):List α:=Nat.rec (motive:=λ_=>List α) [] (λ_ ih=>appR l ih) n
def iZ(T:Tab)(r:Row)(σ:St)(d:Nat)(n:Nat)(ps:List (Nat×Operand))(K:VK):Prop:=
 match r.kd,σ.ar d with
 | .slice,none=>cond (Nat.blt r.elem (T.n r.elem)&&Nat.ble (n*(T.row r.elem).size) 1000&&Nat.blt 0 (T.row r.elem).size)
  (oI (λi=>some (i*(T.row r.elem).size,(T.row r.elem).size)) σ ps (repR n (mapR .lit (T.row r.elem).zero)) λcs=>
   cond (allR V.atom cs) (K (.arr d 0) [.a d ⟨0, .own,r.elem,chunk (T.row r.elem).agg (T.row r.elem).size n cs⟩]) False) False
 |_,_=>False
def rU(r:Row)(cs:List V):V:=match r.agg with|true=> .agg cs|false=>(match cs with|x::_=>x| [] => .bot)
def jY(T:Tab)(r:Row)(σ:St)(d:Nat)(n c:V)(K:VK):Prop:=
 match r.kd,σ.ar d,n,c with
 | .slice,none, .lit (.int .i64 n), .lit (.int .i64 c)=>
   need (0<=n/\n=c/\c*(T.row r.elem).bytes<=140737488355328/\c<=140737488355328) (cond (Nat.blt r.elem (T.n r.elem)&&Nat.blt 0 (T.row r.elem).size) (K (.arr d 0) [.a d ⟨0, .own,r.elem,List.replicate n.toNat (rU (T.row r.elem) (mapR .lit (T.row r.elem).zero))⟩]) False)
 |_,_,_,_=>False
def capK(l:List V):AK:=match l with| [] => .own|_=> .ap
def strV(s:ByteArray):List V:=s.data.toList.map λb=> .lit (.int .u8 b.toNat)
def contsK(k:Kd)(σ:St)(x:V)(K:List V->Prop):Prop:=
 match k,x with
 | .slice,x=>lF σ x K
 | .str, .lit (.string s)=>K (strV s)
 |_,_=>False
def kT(T:Tab)(r:Row)(k':Kd)(σ:St)(d:Nat)(s x:V)(K:VK):Prop:=
 match r.kd with
 | .slice=>cond (Nat.blt r.elem (T.n r.elem)&&Nat.blt 0 (T.row r.elem).size) (contsK k' σ x λxs=>match s with
   | .lit (.slice none 0 0)=>match σ.ar d with
     |none=>need (xs.length*(T.row r.elem).bytes<=140737488355328/\xs.length<=140737488355328/\∀x∈xs,x.cells.length=(T.row r.elem).size) (K (.arr d 0) [.a d ⟨0, .own,r.elem,xs⟩])
     |some _=>False
   | .cap l=>match σ.ar d with
     |none=>need ((l.length+xs.length)*(T.row r.elem).bytes<=140737488355328/\l.length+xs.length<=140737488355328/\∀x∈l++xs,x.cells.length=(T.row r.elem).size) (K (.arr d 0) [.a d ⟨0,capK l,r.elem,l++xs⟩])
     |some _=>False
   | .arr k g=>match σ.ar k with
     |some en=>need (en.gen=g/\(en.kind= .own\/en.kind= .ap)/\en.ty=r.elem/\(en.l.length+xs.length)*(T.row r.elem).bytes<=140737488355328/\en.l.length+xs.length<=140737488355328/\∀x∈xs,x.cells.length=(T.row r.elem).size)
      (K (.arr k (g+1)) [.a k ⟨g+1,en.kind,r.elem,en.l++xs⟩])
     |none=>False
   |_=>False) False
 |_=>False
def bound(o:Option V)(dflt:Int)(K:Int->Prop):Prop:=
 match o with
 |none=>K dflt
 |some (.lit (.int _ n))=>K n
 |_=>False
def sZ(T:Tab)(r:Row)(σ:St)(x:V)(lo hi mx:Option V)(K:VK):Prop:=
 match r.kd,x with
 | .str, .lit (.string s)=>match mx with
   |none=>bound lo 0 λl=>bound hi s.size λh=>need (0<=l/\l<=h/\h<=s.size) (K (.lit (.string (s.extract l.toNat h.toNat))) [])
   |some _=>False
 | .slice,x=>cond (Nat.blt r.elem (T.n r.elem)) (lV σ x λxs=>bound lo 0 λl=>bound hi xs.length λh=>match mx with
   |none=>need (0<=l/\l<=h/\h<=xs.length/\(l=0\/∀x∈xs,x.cells.length=(T.row r.elem).size)) (K (.sl ((xs.take h.toNat).drop l.toNat)) [])
   |some m=>match hi with
    |none=>False
    |some _=>bound (some m) 0 λm=>need (0<=l/\l<=h/\h<=xs.length/\m=h/\(l=0\/∀x∈xs,x.cells.length=(T.row r.elem).size)) (K (.cap ((xs.take h.toNat).drop l.toNat)) [])) False
 |_,_=>False
def rP(f:Int->Int->Int)(xs:List V)(K:VK):Prop:=
 match xs with
 | [.lit (.int k a), .lit (.int _ b)] =>K (lC k (f a b)) []
 | [.lit (.int k a), .lit (.int _ b), .lit (.int _ c)] =>K (lC k (f (f a b) c)) []
 |_=>False
def bE4(T:Tab)(s t:TypeId)(x:V)(K:VK):Prop:=
 match Nat.blt s (T.n s)&&Nat.blt t (T.n t),(T.row s).kd,(T.row t).kd,x with
 |true, .int _, .int k, .lit (.int _ n)=>arith k n λm=>K (lC k m) []
 |true, .str, .str, .lit (.string b)=>K (.lit (.string b)) []
 |_,_,_,_=>False
structure aZ0(xs:List V)(K:List Int->Prop):Prop where
 out:∃ns:List Int,xs=ns.map (λn=>V.lit (.int .u8 n))/\K ns
def strOf(ns:List Int):ByteArray:=ns.foldl (λr n=>r.push (UInt8.ofNat n.toNat)) ByteArray.empty
def isU8:Kd->Bool
 | .int .u8=>true
 |_=>false
def isStr:Kd->Bool
 | .str=>true
 |_=>false
def dG6(k:Kd):Bool:=match k with| .slice=>true|_=>false
def argsV(caps xs:List V):List V:=
 match caps with
 | .own _ _::cs=>appR cs xs
 |caps=>appR xs caps
def convB(T:Tab)(σ:St)(d:Nat)(s t:TypeId)(x:V)(K:VK):Prop:=
 match σ.ar d,x with
 |none, .lit (.string b)=>cond (Nat.blt s (T.n s)&&Nat.blt t (T.n t)&&dG6 (T.row t).kd&&isU8 (T.row (T.row t).elem).kd&&Nat.blt (T.row t).elem (T.n (T.row t).elem)) (need (b.size<=140737488355328) (K (.arr d 0) [.a d ⟨0, .frz,(T.row t).elem,strV b⟩])) False
 |_,_=>False
def aF1(T:Tab)(σ:St)(d:Nat)(s t:TypeId)(x:V)(K:VK):Prop:=
 match(T.row s).kd with
 | .str=>convB T σ d s t x K
 | .slice=>cond (Nat.blt s (T.n s)&&Nat.blt t (T.n t)&&isStr (T.row t).kd&&isU8 (T.row (T.row s).elem).kd&&Nat.blt (T.row s).elem (T.n (T.row s).elem)) (lF σ x λxs=>aZ0 xs λns=>K (.lit (.string (strOf ns))) []) False
 |_=>bE4 T s t x K
def jG(s:Value):List V->Option V
 | .tup [.lit k,x] ::r=> @ite _ (k=s) (Classical.propDecidable _) (some x) (jG s r)
 |_=>none
structure eG6(es:List V)(s:Value)(z:V)(K:V->Prop):Prop where
 out:K ((jG s es).getD z)
def dY9(k:Kd):Bool:=match k with| .str=>true| .int _=>true|_=>false
def cD3(k:Kd)(s:Value):Bool:=match k with
 | .str=>(match s with| .string _=>true|_=>false)
 | .int k=>(match s with| .int k' _=>decide (k'=k)|_=>false)
 |_=>false
def keyD(k:Kd):TypeDesc:=match k with| .str=> .string| .int k=> .int k|_=> .bool
def bD5(T:Tab)(r:Row):Bool:=(match r.kd with| .map=>true|_=>false)&&dY9 (T.row r.alen).kd&&Nat.blt r.alen (T.n r.alen)&&Nat.blt r.elem (T.n r.elem)&& !(T.row r.elem).agg
def oN(T:Tab)(t:TypeId)(σ:St)(d:Nat)(K:VK):Prop:=
 match σ.ar d with
 |none=>cond (bD5 T (T.row t)) (K (.arr d 0) [.a d ⟨0, .dead,t,[.bot]⟩]) False
 |some _=>False
def rG(T:Tab)(t:TypeId)(σ:St)(x y:V)(K:VK):Prop:=
 match x,y with
 | .arr k g, .lit s=>match σ.ar k with
   |some en=>match en.kind,en.l with
    | .dead, .bot::es=>need (en.gen=g) (cond (bD5 T (T.row t)&&cD3 (T.row (T.row t).alen).kd s&&Nat.beq en.ty t) (match(T.row (T.row t).elem).zero with| [z] =>eG6 es s (.lit z) λv=>K v [] |_=>False) False)
    |_,_=>False
   |none=>False
 | .fn _ cs, .lit s=>match cs with
   | [.ap 0 [], .lit kz, .sl es] =>cond (bD5 T (T.row t)&&cD3 (T.row (T.row t).alen).kd s&&cD3 (T.row (T.row t).alen).kd kz) (match(T.row (T.row t).elem).zero with| [z] =>eG6 es s (.lit z) λv=>K v [] |_=>False) False
   |_=>False
 |_,_=>False
def iE(T:Tab)(t:TypeId)(σ:St)(x y z:V)(K:VK):Prop:=
 match x,y with
 | .arr k g, .lit s=>match σ.ar k with
   |some en=>match en.kind,en.l with
    | .dead, .bot::es=>need (en.gen=g) (cond (bD5 T (T.row t)&&cD3 (T.row (T.row t).alen).kd s&&Nat.beq en.ty t&&z.atom) (K .bot [.a k ⟨en.gen, .dead,en.ty, .bot:: .tup [.lit s,z] ::es⟩]) False)
    |_,_=>False
   |none=>False
 |_,_=>False
def dE6(x:V):Bool:=match x with| .box _ _=>true| .fp _=>true| .ae _ _ _ _ _=>true|_=>false
def opVC(T:Tab)(σ:St)(d:Nat)(o:Op)(K:VK):Prop:=
 match o with
 | .move x=>force (σ.ev x) λv=>K v []
 | .assign x=>force (σ.ev x) λv=>K v []
 | .pick c a b=>bA8 (σ.ev c) (σ.ev a) (σ.ev b) K
 | .unOp u _ x=>unVC u (σ.ev x) K
 | .binOp op t x y _=>bD7 T op t (σ.ev x) (σ.ev y) K
 | .box _ x=>lM σ d (σ.ev x).cells K
 | .alloc t=>cond (Nat.blt t (T.n t)) (lM σ d (mapR .lit (T.row t).zero) K) False
 | .fieldAddr s x f=>cond (Nat.blt s (T.n s)) (jB (T.row s) (σ.ev x) f K) False
 | .field s x f=>cond (Nat.blt s (T.n s)) (aM2 T (T.row s) (σ.ev x) f K) False
 | .load t x=>cond (Nat.blt t (T.n t)) (pW (T.row t) σ (σ.ev x) K) False
 | .store t x y=>cond (Nat.blt t (T.n t)) (qU (T.row t) σ (σ.ev x) (σ.ev y) K) False
 | .indexAddr t x i=>cond (Nat.blt t (T.n t)) (gI T (T.row t) σ (σ.ev x) (σ.ev i) K) False
 | .index t x i=>cond (Nat.blt t (T.n t)) (aM6 T (T.row t) (σ.ev x) (σ.ev i) K) False
 | .extract x i=>wZ (σ.ev x) i K
 | .makeFunc (.func g) ⟨[]⟩ ⟨[]⟩=>K (.fn g []) []
 | .makeFunc (.func g) ⟨x::xs⟩ ⟨[]⟩=>bJ (mapR σ.ev (x::xs)) λxs=>K (.fn g (.own 0 [] ::xs)) []
 | .build t ps=>cond (Nat.blt t (T.n t)) (vO T (T.row t) σ ps.toList K) False
 | .buildSlice t n ps=>cond (Nat.blt t (T.n t)) (iZ T (T.row t) σ d n ps.toList K) False
 | .makeSlice t n c=>cond (Nat.blt t (T.n t)) (jY T (T.row t) σ d (σ.ev n) (σ.ev c) K) False
 | .slice t x lo hi mx=>cond (Nat.blt t (T.n t)) (sZ T (T.row t) σ (σ.ev x) (lo.map σ.ev) (hi.map σ.ev) (mx.map σ.ev) K) False
 | .convert s t x=>aF1 T σ d s t (σ.ev x) K
 | .call ⟨.builtin .len,⟨[x]⟩,⟨[t]⟩⟩=>cond (Nat.blt t (T.n t)) (match(T.row t).kd with| .slice=>aE9 σ (σ.ev x) K| .str=>aI4 (σ.ev x) K|_=>False) False
 | .call ⟨.builtin .append,⟨[s,x]⟩,⟨[t,t']⟩⟩=>cond (Nat.blt t (T.n t)&&Nat.blt t' (T.n t')) (kT T (T.row t) (T.row t').kd σ d (σ.ev s) (σ.ev x) K) False
 | .call ⟨.builtin .max,⟨as⟩,_⟩=>rP maxI (mapR σ.ev as) K
 | .call ⟨.builtin .min,⟨as⟩,_⟩=>rP minI (mapR σ.ev as) K
 | .makeMap t none=>cond (Nat.blt t (T.n t)) (oN T t σ d K) False
 | .lookup t x y false=>cond (Nat.blt t (T.n t)) (rG T t σ (σ.ev x) (σ.ev y) K) False
 | .mapUpdate t x y z=>cond (Nat.blt t (T.n t)) (iE T t σ (σ.ev x) (σ.ev y) (σ.ev z) K) False
 | .insert t x y z=>cond (Nat.blt t (T.n t)) (iE T t σ (σ.ev x) (σ.ev y) (σ.ev z) K) False
 | .nilCheck x=>cond (dE6 (σ.ev x)) (force (σ.ev x) λv=>K v []) False
 |_=>False
inductive Tag where
 |ext|fz|bx (i:Nat)|ar (k:Nat)
structure Gh where
 β:Nat->Nat
 av:Nat->Nat->Value
 O:Nat->Tag
def At(w:World)(a:Addr)(cc:Nat->Value)(xs:List V):Prop:=
 ∀j y,xs[j]? =some y->w.cell? (a.add j)=some (cc j)/\(cc j).oneCell'=true
def litD(s:Value):TypeDesc:=match s with| .string _=> .string| .int k _=> .int k|_=> .bool
inductive Rv(w:World)(G:Gh):Value->V->Prop
 |bot (v:Value):Rv w G v .bot
 |lit (u:Value) (h:u.oneCell'=true):Rv w G u (.lit u)
 |agg (cs:Array Value) (xs:List V) (hl:cs.size=xs.length) (ho:∀c∈cs,c.oneCell'=true)
  (h:∀(i:Nat) c x,cs[i]? =some c->xs[i]? =some x->Rv w G c x):Rv w G (.agg cs) (.agg xs)
 |tup (cs:Array Value) (xs:List V) (hl:cs.size=xs.length)
  (h:∀(i:Nat) c x,cs[i]? =some c->xs[i]? =some x->Rv w G c x):Rv w G (.tuple cs) (.tup xs)
 |slN:Rv w G (.slice none 0 0) (.sl [])
 |slS (a:Addr) (c:Nat) (l:List V) (sz:Nat) (cc:Nat->Value) (hc:l.length<=c) (hm:c<=maxLen)
  (hf:0<l.length->G.O a.block= .fz) (hz:∀x∈l,x.cells.length=sz)
  (hcell:At w a cc (l.flatMap V.cells))
  (h:∀(j:Nat) y,(l.flatMap V.cells)[j]? =some y->Rv w G (cc j) y):Rv w G (.slice (some a) l.length c) (.sl l)
 |capN:Rv w G (.slice none 0 0) (.cap [])
 |capS (a:Addr) (l:List V) (sz:Nat) (cc:Nat->Value) (hm:l.length<=maxLen)
  (hf:0<l.length->G.O a.block= .fz) (hz:∀x∈l,x.cells.length=sz)
  (hcell:At w a cc (l.flatMap V.cells))
  (h:∀(j:Nat) y,(l.flatMap V.cells)[j]? =some y->Rv w G (cc j) y):Rv w G (.slice (some a) l.length l.length) (.cap l)
 |box (i off:Nat):Rv w G (.pointer (some ⟨G.β i,off,none⟩)) (.box i off)
 |arr (k g:Nat) (h:(G.av k g).oneCell'=true):Rv w G (G.av k g) (.arr k g)
 |fp (a:Addr) (cs:List V) (cc:Nat->Value) (hf:cs≠ []->G.O a.block= .fz) (hcell:At w a cc cs)
  (h:∀(j:Nat) y,cs[j]? =some y->Rv w G (cc j) y):Rv w G (.pointer (some a)) (.fp cs)
 |ae (k g sz i off:Nat) (a:Addr) (n c:Nat) (h:G.av k g= .slice (some a) n c):Rv w G (.pointer (some (a.add (i*sz+off)))) (.ae k g sz i off)
 |fn (g:FuncId) (lb:Array Value) (caps:List V) (hl:lb.size=caps.length) (h:∀(i:Nat) c x,lb[i]? =some c->caps[i]? =some x->Rv w G c x):Rv w G (.func (.func g) #[] lb) (.fn g caps)
 |fb (g:FuncId) (fs:Array Value) (caps:List V) (hl:fs.size=caps.length) (h:∀(i:Nat) c x,fs[i]? =some c->caps[i]? =some x->Rv w G c x):Rv w G (.func (.func g) fs #[]) (.fn g (.own 0 [] ::caps))
 |mp (b:Nat) (ents:Array MapEntry) (clock:Nat) (g:FuncId) (kz:Value) (es:List V) (val:Value->Value) (hO:G.O b= .fz) (hw:w.heap[b]? =some (.map ents clock)) (hk:∀e∈ents.toList,MapKept.IsKey (litD kz) e.key)
  (hn:∀s,MapKept.IsKey (litD kz) s->jG s es=none->Instr.findNow (litD kz) s ents.toList 0=some none)
  (hs:∀s x,MapKept.IsKey (litD kz) s->jG s es=some x->(∃i,Instr.findNow (litD kz) s ents.toList 0=some (some (i,val s)))/\(val s).oneCell'=true)
  (h:∀s x,MapKept.IsKey (litD kz) s->jG s es=some x->Rv w G (val s) x):Rv w G (.map (some b)) (.fn g [.ap 0 [], .lit kz, .sl es])
mutual
def V.ok(p:Nat->Prop)(q:Nat->Nat->Prop):V->Prop
 | .box i _=>p i
 | .arr k g=>q k g
 | .ae k g _ _ _=>q k g
 | .agg cs=>V.okL p q cs
 | .tup cs=>V.okL p q cs
 | .sl l=>V.okL (λ_=>False) (λ_ _=>False) l
 | .cap l=>V.okL (λ_=>False) (λ_ _=>False) l
 | .fp l=>V.okL (λ_=>False) (λ_ _=>False) l
 | .fn _ l=>V.okL p q l
 | .own _ l=>V.okL (λ_=>False) (λ_ _=>False) l
 | .ap _ l=>V.okL (λ_=>False) (λ_ _=>False) l
 | .bot=>True
 | .lit _=>True
def V.okL(p:Nat->Prop)(q:Nat->Nat->Prop):List V->Prop
 | [] =>True
 |x::r=>V.ok p q x/\V.okL p q r
end
abbrev V.pure(x:V):Prop:=x.ok (λ_=>False) (λ_ _=>False)
abbrev bM(l:List V):Prop:=V.okL (λ_=>False) (λ_ _=>False) l
theorem aH{p:Nat->Prop}{q:Nat->Nat->Prop}{l:List V}:V.okL p q l↔∀x∈l,x.ok p q:=by
 induction l<;>simp_all [V.okL]
mutual
theorem V.ok.imp{p p':Nat->Prop}{q a:Nat->Nat->Prop}(hp:∀i,p i->p' i)(hq:∀k g,q k g->a k g):(x:V)->x.ok p q->x.ok p' a
 | .box i _,h=>by simp only[V.ok]at h⊢;exact hp _ h
 | .arr k g,h=>FH
 | .ae k g _ _ _,h=>FH
 | .agg cs,h=>Ew
 | .tup cs,h=>Ew
 | .sl l,h=>A8
 | .cap l,h=>A8
 | .fp l,h=>A8
 | .fn _ l,h=>by simp only[V.ok]at h⊢;exact V.okL.imp hp hq l h
 | .own _ l,h=>A8
 | .ap _ l,h=>A8
 | .bot,_=>Bq
 | .lit _,_=>Bq
theorem V.okL.imp{p p':Nat->Prop}{q c:Nat->Nat->Prop}(a:∀i,p i->p' i)(b:∀k g,q k g->c k g):(l:List V)->V.okL p q l->V.okL p' c l
 | [],_=>BH
 |x::r,h=>by simp only[V.okL]at h⊢;exact⟨V.ok.imp a b x h.1,V.okL.imp a b r h.2⟩
end
theorem V.pure.ok{x:V}(h:x.pure)(p:Nat->Prop)(q:Nat->Nat->Prop):x.ok p q:=V.ok.imp (λ_ h=>h.elim) (λ_ _ h=>h.elim) x h
def assoc_pure{s:Value}{x:V}:∀ {es:List V},bM es->jG s es=some x->x.pure
 | [],_,h=>Ag
 |y::r,a,h=>by
  unfold jG at h;split at h;rename_i e;cases e;simp only[bM,V.okL,V.ok,and_true]at a;split at h;cases h;exact a.1.2;exact assoc_pure a.2 h;cases h
structure Keep(w w':World)(G G':Gh):Prop where
 fz:∀b,G.O b= .fz->G'.O b= .fz
 heap:∀b,G.O b= .fz->w'.heap[b]? =w.heap[b]?
def Keep.refl(w:World)(G:Gh):Keep w w G G:=⟨λ_ h=>h,λ_ _=>rfl⟩
def At.keep{w w':World}{G G':Gh}(k:Keep w w' G G'){a:Addr}{cc:Nat->Value}{xs:List V}(h:At w a cc xs)(e:xs≠ []->G.O a.block= .fz):At w' a cc xs:=by
 intro j y c;have d:(a.add j).block=a.block:=EW;have b:xs≠ [] :=by rintro rfl;simp at c
 refine⟨?_,(h j y c).2⟩;rw[<-(h j y c).1];exact World.cell?_of_block (by rw[d];exact k.heap _ (e b))
def dF1{l:List V}(h:l.flatMap V.cells≠ []):0<l.length:=by
 grind
def dF{l:List V}(h:bM l){j:Nat}{y:V}(e:(l.flatMap V.cells)[j]? =some y):y.pure:=by
 have c:y∈l.flatMap V.cells:=Pn e;obtain⟨x,d,a⟩:=List.mem_flatMap.1 c;have b:=aH.1 h x d;cases x with
 |agg cs=>
  have:V.okL (λ_=>False) (λ_ _=>False) cs:=by simpa only[V.pure,V.ok]using b
  exact aH.1 this y a
 |_=>simp only[V.cells,Py]at a;subst a;exact b
def Rv.keep{w w':World}{G G':Gh}(k:Keep w w' G G'){v:Value}{x:V}(h:Rv w G v x):
 ∀ {p:Nat->Prop} {q:Nat->Nat->Prop},x.ok p q->(∀i,p i->G'.β i=G.β i)->(∀k g,q k g->G'.av k g=G.av k g)->Rv w' G' v x:=by
 induction h with
 |bot v=>intros;exact .bot v
 |lit u h=>intros;exact .lit u h
 |agg cs xs E P _ r=>
  intro p q d o m;simp only[V.ok]at d;exact .agg cs xs E P λi c x A z=>r i c x A z (aH.1 d x (Pn z)) o m
 |tup cs xs E _ r=>
  intro p q d o m;simp only[V.ok]at d;exact .tup cs xs E λi c x A z=>r i c x A z (aH.1 d x (Pn z)) o m
 |slN=>intros;exact .slN
 |slS a c l sz cc A I B J f _ r=>
  intro p q d o m;simp only[V.ok]at d
  exact .slS a c l sz cc A I (λh=>k.fz _ (B h)) J (f.keep k λh=>B (dF1 h)) λj y C=>
   r j y C (dF d C) (λ_ h=>h.elim) (λ_ _ h=>h.elim)
 |capN=>intros;exact .capN
 |capS a l sz cc I B J f _ r=>
  intro p q d o m;simp only[V.ok]at d
  exact .capS a l sz cc I (λh=>k.fz _ (B h)) J (f.keep k λh=>B (dF1 h)) λj y C=>
   r j y C (dF d C) (λ_ h=>h.elim) (λ_ _ h=>h.elim)
 |box i off=>
  intro p q d o m;simp only[V.ok]at d;have:=o i d;rw[<-this];exact .box i off
 |arr k g h=>
  intro p q d o m;simp only[V.ok]at d;have e:=m k g d;rw[<-e]at h⊢;exact .arr k g h
 |fp a cs cc B f _ r=>
  intro p q d o m;simp only[V.ok]at d;exact .fp a cs cc (λh=>k.fz _ (B h)) (f.keep k B) λj y C=>r j y C (aH.1 d y (Pn C)) (λ_ h=>h.elim) (λ_ _ h=>h.elim)
 |ae k g sz i off a n c h=>
  intro p q d o m;simp only[V.ok]at d;exact .ae k g sz i off a n c ((m k g d).trans h)
 |fn g T t E _ r=>
  intro p q d o m;simp only[V.ok]at d;exact .fn g T t E λi c x A z=>r i c x A z (aH.1 d x (Pn z)) o m
 |fb g M t E _ r=>
  intro p q d o m;simp only[V.ok,V.okL]at d;exact .fb g M t E λi c x A z=>r i c x A z (aH.1 d.2 x (Pn z)) o m
 |mp b F D g S es val L R H O Q _ r=>
  intro p q d o m;simp only[V.ok,V.okL]at d;exact .mp b F D g S es val (k.fz _ L) ((k.heap _ L).trans R) H O Q λs x N K=>r s x N K (assoc_pure d.2.2.1 K) (λ_ h=>h.elim) (λ_ _ h=>h.elim)
structure RvL(w:World)(G:Gh)(vs:List Value)(xs:List V):Prop where
 len:vs.length=xs.length
 one:∀v∈vs,v.oneCell'=true
 rel:∀(i:Nat) v x,vs[i]? =some v->xs[i]? =some x->Rv w G v x
def RvL.keep{w w':World}{G G':Gh}(k:Keep w w' G G'){vs:List Value}{xs:List V}(h:RvL w G vs xs){p:Nat->Prop}{q:Nat->Nat->Prop}(a:V.okL p q xs)
 (c:∀i,p i->G'.β i=G.β i)(d:∀k g,q k g->G'.av k g=G.av k g):RvL w' G' vs xs:=
 ⟨h.len,h.one,λi v x hv b=>(h.rel i v x hv b).keep k (aH.1 a x (Pn b)) c d⟩
structure Fr where
 w0:World
 given:Nat->Prop
 F0:Nat->Prop
 n:Nat
 arg:Nat->Option Value
 argb:Nat->Option Nat:=λ_=>none
 ds:List Deferred:=[]
 keep:Nat->Option Value:=λ_=>none
def Fr.wr(Φ:Fr)(d:Nat):Prop:=d<Φ.n/\Φ.keep d=none
def Fr.mine(Φ:Fr)(b:Nat):Prop:=Φ.w0.heap.size<=b\/Φ.given b
def Nil0(u:Value):Prop:=u= .slice none 0 0\/∃a,u= .slice (some a) 0 0
theorem bA2{w:World}{G:Gh}{u:Value}(h:Nil0 u):Rv w G u (.sl []):=by
 rcases h with rfl|⟨a,rfl⟩;exact .slN;exact .slS a 0 [] 0 (λ_=>undef) (Po _) (P8 _) (λh=>absurd h Af) (λx h=>Ag) (λj y h=>Hu) (λj y h=>Hu)
def aP2{u:Value}(h:Nil0 u):u.oneCell'=true:=by
 rcases h with rfl|⟨a,rfl⟩<;>rfl
def gJ(T:Tab)(w:World)(G:Gh)(k:Nat)(u:Value)(ty:TypeId)(l:List V):Prop:=
 (Nil0 u/\l=[])\/
 ∃b cap cur,u= .slice (some ⟨b,0,none⟩) l.length cap/\G.O b= .ar k/\w.heap[b]? =some (.cells cur ty (0,0))/\l.length<=cap/\cap<=maxLen/\cur.size=cap*(T.row ty).size/\
  (∀x∈l,x.cells.length=(T.row ty).size)/\RvL w G (cur.toList.take (l.length*(T.row ty).size)) (l.flatMap V.cells)
def bL6(d:TypeDesc)(w:World)(G:Gh)(k:Nat)(u:Value)(es:List V):Prop:=
 ∃b ents clock,u= .map (some b)/\G.O b= .ar k/\w.heap[b]? =some (.map ents clock)/\(∀e∈ents.toList,MapKept.IsKey d e.key)/\
  ∀s,MapKept.IsKey d s->match jG s es with
   |some x=>∃i v,Instr.findNow d s ents.toList 0=some (some (i,v))/\v.oneCell'=true/\Rv w G v x/\x.pure
   |none=>Instr.findNow d s ents.toList 0=some none
def gW(T:Tab)(w:World)(G:Gh)(k:Nat)(en:AE):Prop:=
 match en.kind with
 | .dead=>match en.l with
   | [] =>True
   |_::es=>bL6 (keyD (T.row (T.row en.ty).alen).kd) w G k (G.av k en.gen) es
 | .frz=>Rv w G (G.av k en.gen) (.sl en.l)
 | .own=>en.ty<T.n en.ty/\gJ T w G k (G.av k en.gen) en.ty en.l
 | .ap=>en.ty<T.n en.ty/\(gJ T w G k (G.av k en.gen) en.ty en.l\/(Rv w G (G.av k en.gen) (.cap en.l)/\∀x∈en.l,x.cells.length=(T.row en.ty).size))
def St.hasB(σ:St)(i:Nat):Prop:=∃cs,σ.bx i=some cs
def St.hasA(σ:St)(k g:Nat):Prop:=∃en,σ.ar k=some en/\g<=en.gen
structure Inv(T:Tab)(Φ:Fr)(σ:St)(a:Act)(w:World)(G:Gh):Prop where
 nd:a.defers=Φ.ds
 kp:∀s v,Φ.keep s=some v->a.tmps.getD s undef=v
 sz:a.tmps.size=Φ.n
 env:∀s,Rv w G (a.tmps.getD s undef) (σ.env s)
 wfE:∀s,(σ.env s).ok σ.hasB σ.hasA
 box:∀i cs,σ.bx i=some cs->∃c t,w.heap[G.β i]? =some (.cells c t (0,0))/\RvL w G c.toList cs/\G.O (G.β i)= .bx i
 wfB:∀i cs,σ.bx i=some cs->V.okL σ.hasB σ.hasA cs
 arr:∀k en,σ.ar k=some en->gW T w G k en
 wfA:∀k en,σ.ar k=some en->bM en.l
 tag:∀b,G.O b≠ .ext->b<w.heap.size
 mineB:∀b i,G.O b= .bx i->Φ.mine b
 mineA:∀b k,G.O b= .ar k->Φ.mine b
 fzm:∀b,G.O b= .fz->Φ.F0 b\/Φ.mine b
 F0:∀b,Φ.F0 b->G.O b= .fz
 frame:∀b,b<Φ.w0.heap.size->¬Φ.given b->w.heap[b]? =Φ.w0.heap[b]?
 size:Φ.w0.heap.size<=w.heap.size
 os:w.os=Φ.w0.os
 tape:w.tape=Φ.w0.tape
 output:w.output=Φ.w0.output
 args:∀j v,Φ.arg j=some v->G.av j 0=v/\j<8/\∃en,σ.ar j=some en
 lay:T.lay Φ.w0 Φ.F0/\∀b,Φ.F0 b->b<Φ.w0.heap.size/\¬Φ.given b
 argb:∀i b,Φ.argb i=some b->G.β i=b/\(100000<=i/\i<100008)/\∃cs,σ.bx i=some cs
@[irreducible] def Le(T:Tab)(σ σ':St):Prop:=∀Φ a w G,Inv T Φ σ a w G->∃G',Inv T Φ σ' a w G'
def Rb(T:Tab)(w:World)(G:Gh)(j:Nat)(v:Value)(y:V):Prop:=
 match y with
 | .own e l=>e<T.n e/\bM l/\gJ T w G j v e l
 | .ap e l=>e<T.n e/\bM l/\(gJ T w G j v e l\/(Rv w G v (.cap l)/\∀x∈l,x.cells.length=(T.row e).size))
 |y=>y.pure/\Rv w G v y
def Rr(T:Tab)(w:World)(G:Gh)(v:Value)(r:V):Prop:=
 match r with
 | .tup (.bot::rs)=>∃vs:Array Value,v= .agg vs/\vs.size=rs.length/\(∀c∈vs,c.oneCell'=true)/\∀(j:Nat) u y,vs[j]? =some u->rs[j]? =some y->Rb T w G j u y
 | .tup rs=>∃vs:Array Value,v= .tuple vs/\vs.size=rs.length/\∀(j:Nat) u y,vs[j]? =some u->rs[j]? =some y->Rb T w G j u y
 |r=>Rb T w G 0 v r
def callable(P:Program)(f:FuncId):Bool:=
 match P.funcs[f]? with
 |some fn=>fn.body.isSome&&fn.name != "runtime.NumGoroutine"
 |none=>false
def dY8(T:Tab)(P:Program)(f:FuncId)(ys:List V)(r:V)(X:Value->Array Value->World->Gh->Prop):Prop:=
 callable P f=true/\∀(w:World) (G:Gh) (cs:Array Value),cs.size=ys.length->(∀b,G.O b≠ .ext->b<w.heap.size)->(∀b i,G.O b≠ .bx i)->
  (∀(j:Nat) v y,cs[j]? =some v->ys[j]? =some y->Rb T w G j v y)->T.lay w (λb=>G.O b= .fz)->
  Calls P f cs w λe w'=>∃v G',e= .returned v/\(Rr T w' G' v r/\X v cs w' G')/\
   (∀b,G.O b= .fz->G'.O b= .fz)/\(∀b,G'.O b≠ .ext->b<w'.heap.size)/\(∀b i,G'.O b≠ .bx i)/\
   (∀b,G'.O b≠ .ext->(G.O b= .fz/\G'.O b= .fz)\/w.heap.size<=b\/∃j,G.O b= .ar j)/\
   (∀b,b<w.heap.size->(∀j,G.O b≠ .ar j)->w'.heap[b]? =w.heap[b]?)/\
   w.heap.size<=w'.heap.size/\w'.os=w.os/\w'.tape=w.tape/\w'.output=w.output
def Spec(T:Tab)(P:Program)(f:FuncId)(ys:List V)(r:V):Prop:=
 callable P f=true/\∀(w:World) (G:Gh) (cs:Array Value),cs.size=ys.length->(∀b,G.O b≠ .ext->b<w.heap.size)->(∀b i,G.O b≠ .bx i)->
  (∀(j:Nat) v y,cs[j]? =some v->ys[j]? =some y->Rb T w G j v y)->T.lay w (λb=>G.O b= .fz)->
  Calls P f cs w λe w'=>∃v G',e= .returned v/\Rr T w' G' v r/\
   (∀b,G.O b= .fz->G'.O b= .fz)/\(∀b,G'.O b≠ .ext->b<w'.heap.size)/\(∀b i,G'.O b≠ .bx i)/\
   (∀b,G'.O b≠ .ext->(G.O b= .fz/\G'.O b= .fz)\/w.heap.size<=b\/∃j,G.O b= .ar j)/\
   (∀b,b<w.heap.size->(∀j,G.O b≠ .ar j)->w'.heap[b]? =w.heap[b]?)/\
   w.heap.size<=w'.heap.size/\w'.os=w.os/\w'.tape=w.tape/\w'.output=w.output
def IoX(T:Tab)(j:Nat)(e:TypeId)(l:List V)(cs:Array Value)(w:World)(G:Gh):Prop:=bM l/\∃t,gJ T w G t (cs.getD j undef) e l
def bE5(T:Tab)(P:Program)(f:FuncId)(ys:List V)(r:V)(j:Nat)(e:TypeId)(l:List V):Prop:=dY8 T P f ys r (λ_=>IoX T j e l)
def NewX(cells:List V)(v:Value)(_:Array Value)(w:World)(G:Gh):Prop:=
 bM cells/\∃b c t j,v= .pointer (some ⟨b,0,none⟩)/\G.O b= .ar j/\w.heap[b]? =some (.cells c t (0,0))/\RvL w G c.toList cells
def SpecN(T:Tab)(P:Program)(f:FuncId)(ys:List V)(cells:List V):Prop:=dY8 T P f ys .bot (NewX cells)
def RbB(T:Tab)(w:World)(G:Gh)(n j:Nat)(v:Value)(y:V):Prop:=
 match y with
 | .own e l=>e<T.n e/\bM l/\gJ T w G j v e l
 | .ap e l=>e<T.n e/\bM l/\(gJ T w G j v e l\/(Rv w G v (.cap l)/\∀x∈l,x.cells.length=(T.row e).size))
 |y=>y.ok (λi=>100000<=i/\i<100000+n) (λ_ _=>False)/\Rv w G v y
def RrB(T:Tab)(w:World)(G:Gh)(n:Nat)(v:Value)(r:V):Prop:=
 match r with
 | .tup rs=>∃vs:Array Value,v= .tuple vs/\vs.size=rs.length/\∀(j:Nat) u y,vs[j]? =some u->rs[j]? =some y->RbB T w G n j u y
 |r=>RbB T w G n 0 v r
def BxOk(T:Tab)(w:World)(G:Gh)(bs:List (List V)):Prop:=
 ∀i b,bs[i]? =some b->G.O (G.β (100000+i))= .bx (100000+i)/\∃c t,w.heap[G.β (100000+i)]? =some (.cells c t (0,0))/\c.size=b.length/\
  ∀(q:Nat) v y,c[q]? =some v->b[q]? =some y->v.oneCell'=true/\RbB T w G bs.length (100000*(i+1)+q) v y
def aU2(T:Tab)(P:Program)(f:FuncId)(ys:List V)(bs:List (List V))(r:V)(bs':List (List V)):Prop:=
 callable P f=true/\bs'.map List.length=bs.map List.length/\∀(w:World) (G:Gh) (cs:Array Value),cs.size=ys.length->(∀b,G.O b≠ .ext->b<w.heap.size)->
  (∀b i,G.O b= .bx i->100000<=i/\i<100000+bs.length/\b=G.β i)->BxOk T w G bs->
  (∀(j:Nat) v y,cs[j]? =some v->ys[j]? =some y->RbB T w G bs.length j v y)->T.lay w (λb=>G.O b= .fz)->
  Calls P f cs w λe w'=>∃v G',e= .returned v/\RrB T w' G' bs.length v r/\BxOk T w' G' bs'/\(∀i,i<bs.length->G'.β (100000+i)=G.β (100000+i))/\
   (∀b,G.O b= .fz->G'.O b= .fz)/\(∀b,G'.O b≠ .ext->b<w'.heap.size)/\
   (∀b,G'.O b≠ .ext->(G.O b= .fz/\G'.O b= .fz)\/w.heap.size<=b\/(∃j,G.O b= .ar j)\/(∃i,G.O b= .bx i/\G'.O b= .bx i))/\
   (∀b,b<w.heap.size->(∀j,G.O b≠ .ar j)->(∀i,G.O b≠ .bx i)->w'.heap[b]? =w.heap[b]?)/\
   w.heap.size<=w'.heap.size/\w'.os=w.os/\w'.tape=w.tape/\w'.output=w.output
theorem Spec.x{T:Tab}{P:Program}{f:FuncId}{ys:List V}{r:V}(h:Spec T P f ys r):dY8 T P f ys r (λ_ _ _ _=>True):=by
 refine⟨h.1,λw G cs a b c d e=>(h.2 w G cs a b c d e).mono ?_⟩;simp_all
def FW(ro:Option Nat):Fence:={Fence.wide with round:=ro}
structure xN(w W W':World)(G G':Gh):Prop where
 keep:Keep W W' G G'
 size:W.heap.size<=W'.heap.size
 own:∀b,w.heap.size<=b->b<W.heap.size->G.O b= .ext->W'.heap[b]? =W.heap[b]? /\G'.O b= .ext
 tag:∀b,G'.O b≠ .ext->b<W'.heap.size
 os:W'.os=W.os
 tape:W'.tape=W.tape
 output:W'.output=W.output
def aB0(T:Tab)(P:Program)(g:FuncId)(caps:List V)(items:List (List V)):Prop:=
 callable P g=true/\∀(w:World) (G:Gh) (lb:Array Value) (l:Nat),lb.size=caps.length->(∀b,G.O b≠ .ext->b<w.heap.size)->
  (∀(j:Nat) v y,lb[j]? =some v->caps[j]? =some y->y.pure/\Rv w G v y)->T.lay w (λb=>G.O b= .fz)->
  ∀(J:Nat->World->Gh->Prop) (X:World->Gh->Prop),
   (∀k W W' G',J k W G'->W.heap.size<=W'.heap.size->(∀b,b<W.heap.size->(G'.O b≠ .ext\/b<w.heap.size)->W'.heap[b]? =W.heap[b]?)->W'.os=W.os->W'.tape=W.tape->W'.output=W.output->J k W' G')->
   (∀W W' G',X W G'->W.heap.size<=W'.heap.size->(∀b,b<W.heap.size->(G'.O b≠ .ext\/b<w.heap.size)->W'.heap[b]? =W.heap[b]?)->W'.os=W.os->W'.tape=W.tape->W'.output=W.output->X W' G')->
   (∀k W G' G'',J k W G'->G''.β=G'.β->G''.av=G'.av->(∀b,G''.O b=G'.O b\/(w.heap.size<=b/\b<W.heap.size/\G'.O b= .ext/\G''.O b= .fz))->J k W G'')->
   (∀k W G' vs it,J k W G'->items[k]? =some it->vs.size=it.length->(∀(j:Nat) v y,vs[j]? =some v->it[j]? =some y->y.pure/\Rv W G' v y)->
    YieldAt (FW none) 0 P l vs W λe W'=>(e= .returned (.bool true)/\∃G2,J (k+1) W' G2/\xN w W W' G' G2)\/(e= .returned (.bool false)/\∃G2,X W' G2/\xN w W W' G' G2))->
   J 0 w G->CallsIn (FW none) 0 P g (#[.func (.yield l) #[] #[]] ++lb) w λe W'=>(∃v,e= .returned v)/\((∃G',J items.length W' G')\/∃G',X W' G')
end Go.Ab
