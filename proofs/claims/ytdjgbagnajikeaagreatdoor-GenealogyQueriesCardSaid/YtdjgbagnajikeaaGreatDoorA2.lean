/-
  The executor over calls, regions and code.
-/
import Derived.Test.YtdjgbagnajikeaaGreatDoorA1
set_option linter.unusedVariables false
set_option linter.unusedSimpArgs false
noncomputable section
namespace Go.Ab
def yH(ar:Nat->Option AE)(x y:V):Prop:=
 match y with
 | .sl l=>match x with
   | .sl l'=>l'=l
   | .cap l'=>l'=l
   | .lit (.slice none 0 0)=>l=[]
   | .arr k g=>match ar k with
     |some en=>en.gen=g/\en.kind≠ .dead/\en.l=l
     |none=>False
   |_=>False
 | .cap l=>match x with
   | .cap l'=>l'=l
   | .lit (.slice none 0 0)=>l=[]
   |_=>False
 | .lit u=>match x with
   | .lit u'=>u'=u
   |_=>False
 | .fp l=>match x with
   | .fp l'=>l'=l
   |_=>False
 | .fn g l=>match x with
   | .fn g' l'=>g'=g/\l'=l/\(V.fn g l).atom=true
   |_=>False
 |_=>False
def cN9(ar:Nat->Option AE)(ys:List V):List V->Prop:=
 List.rec (motive:=fun _=>List V->Prop) (fun xs=>match xs with| [] =>True|_::_=>False)
  (fun y _ ih xs=>match xs with|x::xr=>yH ar x y/\ih xr| [] =>False) ys
def wU(T:Tab)(ar:Nat->Option AE)(x y:V):Prop:=
 match y with
 | .own e l=>match x with
   | .lit (.slice none 0 0)=>e<T.n e/\l=[]
   | .arr k g=>match ar k with
     |some en=>en.gen=g/\en.kind= .own/\en.ty=e/\en.l=l
     |none=>False
   |_=>False
 | .ap e l=>match x with
   | .lit (.slice none 0 0)=>e<T.n e/\l=[]
   | .cap l'=>e<T.n e/\(∀x∈l',x.cells.length=(T.row e).size)/\l'=l
   | .arr k g=>match ar k with
     |some en=>en.gen=g/\(en.kind= .own\/en.kind= .ap)/\en.ty=e/\en.l=l
     |none=>False
   |_=>False
 | .agg ys=>match x with
   | .agg xs=>cN9 ar ys xs
   |_=>False
 |y=>yH ar x y
def iQ(T:Tab)(ar:Nat->Option AE)(ys:List V):List V->Prop:=
 List.rec (motive:=fun _=>List V->Prop) (fun xs=>match xs with| [] =>True|_::_=>False)
  (fun y _ ih xs=>match xs with|x::xr=>wU T ar x y/\ih xr| [] =>False) ys
def akey(x:V):List Nat:=match x with| .arr k _=> [k] |_=> []
def jQ(x:V):List Nat:=
 match x with
 | .arr k _=> [k]
 | .agg cs=>List.rec (motive:=fun _=>List Nat) [] (fun x _ ih=>appR (akey x) ih) cs
 |_=> []
def linear(y:V):Bool:=match y with| .own _ _=>true| .ap _ _=>true|_=>false
def bD(ys:List V):List V->List Nat:=
 List.rec (motive:=fun _=>List V->List Nat) (fun _=> []) (fun y _ ih xs=>match xs with|x::xr=>appR (cond (linear y) (jQ x) []) (ih xr)| [] => []) ys
def bK(ys:List V):List V->List Nat:=
 List.rec (motive:=fun _=>List V->List Nat) (fun _=> []) (fun y _ ih xs=>match xs with|x::xr=>appR (cond (linear y) [] (jQ x)) (ih xr)| [] => []) ys
def memR(k:Nat)(l:List Nat):Bool:=List.rec (motive:=fun _=>Bool) false (fun x _ ih=>cond (Nat.beq k x) true ih) l
def aE7(l:List Nat):Bool:=List.rec (motive:=fun _=>Bool) true (fun x r ih=>cond (memR x r) false ih) l
def bR6(x:V):Bool:=match x with| .lit _=>true|_=>false
def sS(x:V):Bool:=match x with| .lit _=>true| .agg cs=>allR bR6 cs|_=>false
def aH7(x:V):Bool:=match x with| .lit _=>true| .agg cs=>allR bR6 cs| .tup cs=>allR sS cs|_=>false
def iR(xs ys:List V):Bool:=aE7 (bD ys xs)&&allR (fun k=> !memR k (bK ys xs)) (bD ys xs)
def aX(σ:St)(ks:List Nat):List Mod:=
 List.rec (motive:=fun _=>List Mod) [] (fun k _ ih=>match σ.ar k with|some en=> .a k ⟨en.gen, .dead,en.ty,[]⟩::ih|none=>ih) ks
def aV(σ:St)(ks:List Nat):List Mod:=
 List.rec (motive:=fun _=>List Mod) [] (fun k _ ih=>match σ.ar k with
  |some en=>match en.kind with
   | .own=> .a k ⟨en.gen, .frz,en.ty,en.l⟩::ih
   | .ap=> .a k ⟨en.gen, .frz,en.ty,en.l⟩::ih
   | .frz=>ih
   | .dead=>match en.l with| [] =>ih|_::_=> .a k ⟨en.gen, .dead,en.ty,[]⟩::ih
  |none=>ih) ks
def reuse(σ:St)(ks:List Nat):Option (Nat×Nat):=
 match ks with
 |k::_=>match σ.ar k with
  |some en=>some (k,en.gen+1)
  |none=>none
 | [] =>none
def uF(σ:St)(d:Nat)(rs:List V):Nat->Option (Nat×Nat)->(List V->List Mod->Prop)->Prop:=
 List.rec (motive:=fun _=>Nat->Option (Nat×Nat)->(List V->List Mod->Prop)->Prop) (fun _ _ K=>K [] [])
  (fun y _ ih j ro K=>match y with
   | .own e l=>match ro with
     |some (k,g)=>ih (j+1) none fun vs ms=>K (.arr k g::vs) (.a k ⟨g, .own,e,l⟩::ms)
     |none=>match σ.ar (d+1000*j)with
      |none=>ih (j+1) none fun vs ms=>K (.arr (d+1000*j) 0::vs) (.a (d+1000*j) ⟨0, .own,e,l⟩::ms)
      |some _=>False
   | .ap e l=>match ro with
     |some (k,g)=>ih (j+1) none fun vs ms=>K (.arr k g::vs) (.a k ⟨g, .ap,e,l⟩::ms)
     |none=>match σ.ar (d+1000*j)with
      |none=>ih (j+1) none fun vs ms=>K (.arr (d+1000*j) 0::vs) (.a (d+1000*j) ⟨0, .ap,e,l⟩::ms)
      |some _=>False
   |y=>force y fun y=>ih (j+1) ro fun vs ms=>K (y::vs) ms) rs
def zZ(σ:St)(d:Nat)(ro:Option (Nat×Nat))(r:V)(K:VK):Prop:=
 match r with
 | .tup (.bot::rs)=>uF σ d rs 0 ro fun vs ms=>K (.agg vs) ms
 | .tup rs=>uF σ d rs 0 ro fun vs ms=>K (.tup vs) ms
 |r=>uF σ d [r] 0 ro fun vs ms=>match vs with|v::_=>K v ms| [] =>False
def sO(light lend:Bool)(xs ys:List V)(r:V):Bool:=
 iR xs ys&&Nat.ble (lenR (bD ys xs)) 1&& (cond lend (aH7 r) true)&& (cond light (Nat.beq (lenR (bD ys xs)) 0&& (lend||Nat.beq (lenR (bK ys xs)) 0)) true)
def bU9(is:List Nat)(x y:V):Prop:=
 match y with
 | .box b off=>match x with
   | .box i off'=>nth is (Nat.sub b 100000)=some i/\Nat.ble 100000 b=true/\off'=off
   |_=>False
 | .fp l=>match x with| .fp l'=>l'=l|_=>False
 | .lit u=>match x with| .lit u'=>u'=u|_=>False
 | .own e l=>match x with| .own e' l'=>e'=e/\l'=l|_=>False
 |_=>False
def refL(is:List Nat)(ys:List V):List V->Prop:=
 List.rec (motive:=fun _=>List V->Prop) (fun xs=>match xs with| [] =>True|_::_=>False)
  (fun y _ ih xs=>match xs with|x::xr=>bU9 is x y/\ih xr| [] =>False) ys
def aP8(T:Tab)(ar:Nat->Option AE)(is:List Nat)(x y:V):Prop:=
 match y with
 | .bot=>True
 | .box b off=>bU9 is x (.box b off)
 | .fn g ys=>match x with| .fn g' xs=>cond (isMapC ys) (g'=g/\xs=ys) (g'=g/\refL is ys xs)|_=>False
 |y=>wU T ar x y
def bI2(T:Tab)(ar:Nat->Option AE)(is:List Nat)(ys:List V):List V->Prop:=
 List.rec (motive:=fun _=>List V->Prop) (fun xs=>match xs with| [] =>True|_::_=>False)
  (fun y _ ih xs=>match xs with|x::xr=>aP8 T ar is x y/\ih xr| [] =>False) ys
def eU(bx:Nat->Option (List V))(bs:List (List V)):List Nat->List (List V×List V):=
 List.rec (motive:=fun _=>List Nat->List (List V×List V)) (fun _=> []) (fun b _ ih is=>match is with
  |i::ir=>(match bx i with|some cs=>cs|none=> [],b)::ih ir
  | [] => []) bs
def xM(T:Tab)(ar:Nat->Option AE)(is:List Nat)(gs:List (List V×List V)):Prop:=
 List.rec (motive:=fun _=>Prop) True (fun g _ ih=>bI2 T ar is g.2 g.1/\ih) gs
def ownG(gs:List (List V×List V)):List Nat:=List.rec (motive:=fun _=>List Nat) [] (fun g _ ih=>appR (bD g.2 g.1) ih) gs
def mF(gs:List (List V×List V)):List Nat:=List.rec (motive:=fun _=>List Nat) [] (fun g _ ih=>appR (bK g.2 g.1) ih) gs
def V.ren(f:Nat->Nat)(x:V):V:=
 V.rec (motive_1:=fun _=>V) (motive_2:=fun _=>List V)
   .bot (fun u=> .lit u) (fun _ ih=> .agg ih) (fun _ ih=> .tup ih) (fun l _=> .sl l) (fun l _=> .cap l) (fun e l _=> .own e l) (fun e l _=> .ap e l)
   (fun j off=> .box (f j) off) (fun k g=> .arr k g) (fun l _=> .fp l) (fun k g z i o=> .ae k g z i o) (fun g _ ih=> .fn g ih)
   [] (fun _ _ ih1 ih2=>ih1::ih2) x
def nthD(is:List Nat)(n:Nat):Nat:=match nth is n with|some i=>i|none=>0
def renF(is:List Nat)(b:Nat):Nat:=nthD is (Nat.sub b 100000)
def xO(ar:Nat->Option AE)(ok:List Nat)(N:Nat)(kd:AK)(e:TypeId)(l:List V)(x:V)(K:V->Mod->Prop):Prop:=
 match x with
 | .arr k _=>match memR k ok with
   |true=>match ar k with
    |some en=>K (.arr k (en.gen+1)) (.a k ⟨en.gen+1,kd,e,l⟩)
    |none=>False
   |false=>match ar N with
    |none=>K (.arr N 0) (.a N ⟨0,kd,e,l⟩)
    |some _=>False
 |_=>match ar N with
  |none=>K (.arr N 0) (.a N ⟨0,kd,e,l⟩)
  |some _=>False
def oJ(ar:Nat->Option AE)(is ok:List Nat)(ys:List V):List V->Nat->(List V->List Mod->Prop)->Prop:=
 List.rec (motive:=fun _=>List V->Nat->(List V->List Mod->Prop)->Prop) (fun xs _ K=>match xs with| [] =>K [] [] |_::_=>False)
  (fun y _ ih xs N K=>match xs with
   | [] =>False
   |x::xr=>match y with
    | .own e l=>xO ar ok N .own e l x fun v m=>ih xr (N+1000) fun vs ms=>K (v::vs) (m::ms)
    | .ap e l=>xO ar ok N .ap e l x fun v m=>ih xr (N+1000) fun vs ms=>K (v::vs) (m::ms)
    |y=>force (y.ren (renF is)) fun v=>ih xr (N+1000) fun vs ms=>K (v::vs) ms) ys
def aB3(bx:Nat->Option (List V))(ar:Nat->Option AE)(is0 ok:List Nat)(bs:List (List V)):List Nat->Nat->(List Mod->Prop)->Prop:=
 List.rec (motive:=fun _=>List Nat->Nat->(List Mod->Prop)->Prop) (fun is _ K=>match is with| [] =>K [] |_::_=>False)
  (fun b _ ih is N K=>match is with
   | [] =>False
   |i::ir=>match bx i with
    |some cs=>oJ ar is0 ok b cs N fun vs ms=>ih ir (N+1000000) fun ns=>K (appR ms (.b i vs::ns))
    |none=>False) bs
def dB5(is ok:List Nat):V:=match is with| [] =>(match ok with|k::_=> .arr k 0| [] => .bot)|_::_=> .bot
def aX2(bx:Nat->Option (List V))(ar:Nat->Option AE)(is ok:List Nat)(d:Nat)(r:V)(bs:List (List V))(K:VK):Prop:=
 match r with
 | .tup rs=>oJ ar is ok rs (mapR (fun _=> .bot) rs) d fun vs ms=>aB3 bx ar is ok bs is (d+1000000) fun ns=>K (.tup vs) (appR ms ns)
 |r=>oJ ar is ok [r] [dB5 is ok] d fun vs ms=>match vs with
  |v::_=>aB3 bx ar is ok bs is (d+1000000) fun ns=>K v (appR ms ns)
  | [] =>False
def isS{α:Type}(o:Option α):Bool:=match o with|some _=>true|none=>false
def zA(bx:Nat->Option (List V))(gs:List (List V×List V))(is:List Nat)(bs:List (List V))(r:V):Bool:=
 aE7 (ownG gs)&&allR (fun k=> !memR k (mF gs)) (ownG gs)&&aE7 is&&Nat.beq (lenR is) (lenR bs)&&allR (fun i=>isS (bx i)) is&&allR (fun b=>Nat.blt (lenR b) 1000) bs&&Nat.ble (lenR is) 8&&
  (match r with| .tup rs=>Nat.blt (lenR rs) 1000|_=>true)
inductive Md where
 |free
 |drawn (hv:List (Nat×List Nat))
def Md.light:Md->Bool
 | .free=>false
 | .drawn _=>true
def hvOf(hv:List (Nat×List Nat))(d:Nat):Option (List Nat):=List.rec (motive:=fun _=>Option (List Nat)) none (fun p _ ih=>cond (Nat.beq d p.1) (some p.2) ih) hv
def Md.may(m:Md)(d:Nat)(is:List Nat)(gs:List (List V×List V)):Bool:=
 match m with
 | .free=>true
 | .drawn hv=>match hvOf hv d with
   |some bl=>memR 88888 bl||(allR (fun i=>memR i bl) is&&Nat.beq (lenR (ownG gs)) 0&&Nat.beq (lenR (mF gs)) 0)
   |none=>false
structure kY(T:Tab)(P:Program)(light:Md)(σ:St)(d:Nat)(f:FuncId)(xs:List V)(K:VK):Prop where
 out:(∃(ys:List V) (r:V) (lend:Bool),iQ T σ.ar ys xs/\sO light.light lend xs ys r=true/\Spec T P f ys r/\
  zZ σ d (reuse σ (bD ys xs)) r fun v ms=>K v (appR (cond lend [] (aV σ (bK ys xs))) (appR (aX σ (bD ys xs)) ms)))\/
  (light= .free/\∃(ys:List V) (r:V) (j k g:Nat) (e:TypeId) (l l':List V),iQ T σ.ar ys xs/\sO false false xs ys r=true/\bE5 T P f ys r j e l'/\
   ys[j]? =some (.own e l)/\xs[j]? =some (.arr k g)/\aH7 r=true/\
   K r (appR (aV σ (bK ys xs)) (appR (aX σ (bD ys xs)) [.a k ⟨g, .own,e,l'⟩])))\/
  (∃(ys:List V) (is:List Nat) (bs:List (List V)) (r:V) (bs':List (List V)),light.may d is ((xs,ys)::eU σ.bx bs is)=true/\xM T σ.ar is ((xs,ys)::eU σ.bx bs is)/\zA σ.bx ((xs,ys)::eU σ.bx bs is) is bs r=true/\aU2 T P f ys bs r bs'/\
   aX2 σ.bx σ.ar is (ownG ((xs,ys)::eU σ.bx bs is)) d r bs' fun v ms=>K v (appR (aV σ (mF ((xs,ys)::eU σ.bx bs is))) (appR (aX σ (ownG ((xs,ys)::eU σ.bx bs is))) ms)))\/
  (light= .free/\∃(ys:List V) (cells:List V),iQ T σ.ar ys xs/\sO false false xs ys .bot=true/\SpecN T P f ys cells/\σ.bx d=none/\
   K (.box d 0) (appR (aV σ (bK ys xs)) (appR (aX σ (bD ys xs)) [.b d cells])))
def nilB(bop:BinOp)(b:Bool):Bool:=match bop with| .eql=>b|_=> !b
structure bV3(T:Tab)(bop:BinOp)(t:TypeId)(c:Value)(l:List V)(K:VK):Prop where
 c0:c= .slice none 0 0
 ty:t<T.n t
 kd:(T.row t).kd= .slice
 op:bop= .eql\/bop= .neq
 out:∀b:Bool,(l≠ []->b=false)->K (B (nilB bop b)) []
def bW(T:Tab)(P:Program)(light:Md)(σ:St)(d:Nat)(op:Op)(K:VK):Prop:=
 match op with
 | .call ⟨.value (.func f),⟨as⟩,_⟩=>bJ (mapR σ.ev as) fun xs=>kY T P light σ d f xs K
 | .call ⟨.value (.tmp t),⟨as⟩,_⟩=>match σ.env t with
   | .fn g caps=>cond (isFnC caps) (bJ (mapR σ.ev as) fun xs=>kY T P light σ d g (argsV caps xs) K) False
   |_=>False
 | .slice t (.tmp x) lo hi mx=>match light,σ.env x with
   | .free, .arr k _=>match σ.ar k with
     |some ⟨gen, .own,ty,l⟩=>opVC T (σ.apps [.a k ⟨gen, .frz,ty,l⟩]) d (.slice t (.tmp x) lo hi mx) fun v ms=>K v (.a k ⟨gen, .frz,ty,l⟩::ms)
     |some ⟨gen, .ap,ty,l⟩=>opVC T (σ.apps [.a k ⟨gen, .frz,ty,l⟩]) d (.slice t (.tmp x) lo hi mx) fun v ms=>K v (.a k ⟨gen, .frz,ty,l⟩::ms)
     |_=>opVC T σ d (.slice t (.tmp x) lo hi mx) K
   |_,_=>opVC T σ d (.slice t (.tmp x) lo hi mx) K
 | .binOp bop t (.tmp x) (.const c) t'=>match light,σ.env x with
   | .free, .sl l=>bV3 T bop t c l K
   |_,_=>opVC T σ d (.binOp bop t (.tmp x) (.const c) t') K
 |op=>opVC T σ d op K
abbrev OpsK:=(Nat->V)->(Nat->Option (List V))->(Nat->Option AE)->(St->Prop)->Prop
def dZ7(ms:List Mod):(env:Nat->V)->(bx:Nat->Option (List V))->(ar:Nat->Option AE)->(K:(Nat->V)->(Nat->Option (List V))->(Nat->Option AE)->Prop)->Prop:=
 List.rec (motive:=fun _=>(env:Nat->V)->(bx:Nat->Option (List V))->(ar:Nat->Option AE)->(K:(Nat->V)->(Nat->Option (List V))->(Nat->Option AE)->Prop)->Prop)
  (fun env bx ar K=>K env bx ar)
  (fun m _ ih env bx ar K=>match m with
   | .b i cs=>ih env (upd bx i (some cs)) ar K
   | .a k en=>ih env bx (upd ar k (some en)) K) ms
def tV(ops:List Oper)(j:Nat):Option Nat:=(nth ops j).bind (·.dst)
def aV2(T:Tab)(P:Program)(light:Md)(n:Nat)(dst:Option Nat)(op:Op)(ih:OpsK):OpsK:=fun env bx ar K=>
 match dst with
 |some d=>cond (Nat.blt d n) (bW T P light ⟨env,bx,ar⟩ d op fun v ms=>dZ7 ms env bx ar fun env bx ar=>ih (upd env d v) bx ar K) False
 |none=>bW T P light ⟨env,bx,ar⟩ n op fun _ ms=>dZ7 ms env bx ar fun env bx ar=>ih env bx ar K
def zX(rf:Bool)(ar:Nat->Option AE)(xs:List Operand):(Nat->V)->(Nat->Option (List V))->((Nat->V)->(Nat->Option (List V))->List V->Prop)->Prop:=
 List.rec (motive:=fun _=>(Nat->V)->(Nat->Option (List V))->((Nat->V)->(Nat->Option (List V))->List V->Prop)->Prop) (fun env bx K=>K env bx [])
  (fun c _ ih env bx K=>match St.ev ⟨env,bx,ar⟩ c with
   | .box i off=>match off,bx i with
     |0,some cells=>match rf with
      |true=>ih env bx fun env bx caps=>K env bx (.box i 0::caps)
      |false=>bJ cells fun cells=>cond (allR V.atom cells&&Nat.blt i 100000) (ih (fun s=>(env s).frz i cells) (frzB i cells bx) fun env bx caps=>K env bx (.fp cells::caps)) False
     |_,_=>False
   | .fp cs=>ih env bx fun env bx caps=>K env bx (.fp cs::caps)
   |_=>False) xs
structure cR5(T:Tab)(σ:St)(K:St->Prop):Prop where
 out:∃σ',Le T σ σ'/\K σ'
def dB2(T:Tab)(P:Program)(light:Md)(n:Nat)(dst:Option Nat)(op:Op)(ih:OpsK):OpsK:=fun env bx ar K=>
 match op with
 | .makeFunc (.func g) ⟨[]⟩ ⟨c::cs⟩=>match light,dst with
   | .free,some d=>cond (Nat.blt d n) (zX (T.ref g) ar (c::cs) env bx fun env bx caps=>ih (upd env d (.fn g caps)) bx ar K) False
   |_,_=>False
 | .buildSlice t m ps=>match light with
   | .free=>cond (allR (fun p=>allR V.atom (St.ev ⟨env,bx,ar⟩ p.2).cells) ps.toList) (aV2 T P light n dst (.buildSlice t m ps) ih env bx ar K)
     (cR5 T ⟨env,bx,ar⟩ fun σ'=>aV2 T P light n dst (.buildSlice t m ps) ih σ'.env σ'.bx σ'.ar K)
   |_=>aV2 T P light n dst (.buildSlice t m ps) ih env bx ar K
 |op=>aV2 T P light n dst op ih env bx ar K
def bF6(n:Nat)(dst:Option Nat)(ih:OpsK):OpsK:=fun env bx ar K=>
 match dst with
 |some d=>cond (Nat.blt d n) (ih (upd env d (.tup [])) bx ar K) False
 |none=>ih env bx ar K
def bH0(T:Tab)(P:Program)(light:Md)(n:Nat)(ops:List Oper)(o:Oper)(ih:OpsK):OpsK:=fun env bx ar K=>
 match o with
 |⟨dst,op,_,_,_,guard⟩=>
  match guard with
  |none=>dB2 T P light n dst op ih env bx ar K
  |some (j,want)=>
   match tV ops j with
   |some s=>match env s with
    | .lit (.bool b)=>
      branch b
       (cond want (aV2 T P light n dst op ih (upd env s (B true)) bx ar K) (bF6 n dst ih (upd env s (B true)) bx ar K))
       (cond want (bF6 n dst ih (upd env s (B false)) bx ar K) (aV2 T P light n dst op ih (upd env s (B false)) bx ar K))
    | .tup _=>bF6 n dst ih env bx ar K
    |_=>False
   |none=>False
def aY0(T:Tab)(P:Program)(light:Md)(n:Nat)(ops l:List Oper):OpsK:=
 List.rec (motive:=fun _=>OpsK) (fun env bx ar K=>K ⟨env,bx,ar⟩) (fun o _ ih=>bH0 T P light n ops o ih) l
def cls:Op->Nat
 | .move _=>0
 | .nilCheck _=>0
 | .assign _=>0
 | .pick _ _ _=>0
 | .unOp _ _ _=>0
 | .binOp _ _ _ _ _=>0
 | .fieldAddr _ _ _=>0
 | .field _ _ _=>0
 | .extract _ _=>0
 | .makeFunc (.func _) ⟨[]⟩ ⟨[]⟩=>0
 | .build _ _=>0
 | .convert _ _ _=>2
 | .index _ _ _=>0
 | .call ⟨.builtin .max,_,_⟩=>0
 | .call ⟨.builtin .min,_,_⟩=>0
 | .box _ _=>1
 | .alloc _=>1
 | .buildSlice _ _ _=>1
 | .makeSlice _ _ _=>1
 | .load _ _=>2
 | .indexAddr _ _ _=>2
 | .lookup _ _ _ false=>2
 | .slice _ _ _ _ _=>2
 | .call ⟨.builtin .len,_,_⟩=>2
 | .call ⟨.value (.func _),_,_⟩=>3
 | .call ⟨.value (.tmp _),_,_⟩=>3
 | .store _ _ _=>4
 | .call ⟨.builtin .append,_,_⟩=>4
 |_=>5
def clash(a b:Nat):Bool:=(Nat.ble 4 a&&Nat.ble 2 b)||(Nat.ble 4 b&&Nat.ble 2 a)||Nat.ble 5 a||Nat.ble 5 b
def bW4(ms:List Nat)(o:Oper):Nat:=o.after.foldl (fun m e=>if Region.binds .any e then m|||2^e.on|||ms.getD e.on 0 else m) 0
def masks(ops:List Oper):List Nat:=ops.foldl (fun ms o=>ms++[bW4 ms o]) []
def claim(cl:List (Nat×Nat))(u:Nat):Option Nat:=(cl.find? fun q=>Nat.beq q.1 u).map (·.2)
def zO(cl:List (Nat×Nat))(x:Operand)(i:Nat):Bool:=
 match x with
 | .tmp u=>match claim cl u with|some j=>Nat.beq i j|none=>false
 | .const _=>true
 |_=>false
def aL7(T:Tab)(cl:List (Nat×Nat))(o:Oper):Bool:=
 match o.dst with
 |none=>true
 |some d=>match claim cl d with
  |none=>true
  |some i=>match o.op with
   | .fieldAddr _ x _=>zO cl x i
   | .indexAddr t x _=>zO cl x i||(Nat.beq i 77777&&dG6 (T.row t).kd)
   | .move x=>zO cl x i
   | .nilCheck x=>zO cl x i
   | .alloc _=>Nat.beq d i
   | .box _ _=>Nat.beq d i
   | .binOp .rem _ _ _ _=>true
   |_=>false
def sepO(cl:List (Nat×Nat))(i:Nat)(o:Op):Bool:=
 match o with
 | .store _ (.tmp u') _=>match claim cl u' with|some j=> !Nat.beq i j|none=>false
 | .call ⟨.builtin .append,_,_⟩=>true
 |_=>false
def isApp(o:Op):Bool:=match o with| .call ⟨.builtin .append,_,_⟩=>true|_=>false
def aM7(cl:List (Nat×Nat))(p o:Op):Bool:=
 match p with
 | .load _ (.tmp u)=>match claim cl u with
   |some i=> !Nat.beq i 77777&&sepO cl i o
   |none=>false
 | .indexAddr _ (.tmp u) x=>match claim cl u with
   |some i=> !Nat.beq i 77777&& (zO cl x i&&sepO cl i o)
   |none=>false
 | .slice _ _ _ _ _=>isApp o
 | .call ⟨.builtin .len,⟨[.tmp u]⟩,_⟩=>match claim cl u with
   |some i=> !Nat.beq i 77777&&sepO cl i o
   |none=>false
 |_=>false
def aG7(o:Op):Bool:=match o with| .call ⟨.value _,_,_⟩=>true|_=>false
def hvO(hv:List (Nat×List Nat))(o:Oper):Bool:=aG7 o.op&& (match o.dst with|some d=>isS (hvOf hv d)|none=> !hv.isEmpty)
def clsH(hv:List (Nat×List Nat))(o:Oper):Nat:=cond (hvO hv o) 5 (cls o.op)
def aI5(cl:List (Nat×Nat))(bl:List Nat)(o:Op):Bool:=
 match o with
 | .load _ (.tmp u)=>match claim cl u with|some i=> !Nat.beq i 77777&& !bl.contains i|none=>false
 | .fieldAddr _ _ _=>true
 | .move _=>true
 | .nilCheck _=>true
 |_=>false
def aI7(o:Op):Bool:=
 match o with
 | .fieldAddr _ _ _=>true
 | .move _=>true
 | .nilCheck _=>true
 |_=>false
def blOf(hv:List (Nat×List Nat))(o:Oper):Option (List Nat):=
 match aG7 o.op,o.dst with
 |true,some d=>match hvOf hv d with
  |some bl=>cond (memR 88888 bl) none (some bl)
  |none=>none
 |_,_=>none
def dJ2(cl:List (Nat×Nat))(hv:List (Nat×List Nat))(p o:Oper):Bool:=
 ((match blOf hv o with|some bl=>aI5 cl bl p.op|none=>false)||(match blOf hv p with|some bl=>aI5 cl bl o.op|none=>false))||(aI7 p.op||aI7 o.op)
def fL7(cl:List (Nat×Nat))(p o:Op):Bool:=
 isApp p&& (match o with| .slice _ _ _ _ _=>true| .load _ _=>cl.any fun q=> !Nat.beq q.2 77777&&o.operands.all fun x=>zO cl x q.2| .indexAddr _ _ _=>cl.any fun q=> !Nat.beq q.2 77777&&o.operands.all fun x=>zO cl x q.2| .call ⟨.builtin .len,_,_⟩=>cl.any fun q=> !Nat.beq q.2 77777&&o.operands.all fun x=>zO cl x q.2|_=>false)
def fY1(p o:Op):Bool:=
 match p,o with
 | .indexAddr _ _ _, .store _ _ _=>true
 | .store _ _ _, .indexAddr _ _ _=>true
 |_,_=>false
def oO(T:Tab)(cl:List (Nat×Nat))(hv:List (Nat×List Nat))(ops:List Oper):Bool:=
 let ms:=masks ops
 ops.all (aL7 T cl)&&ops.zipIdx.all fun(o,k)=>o.after.all (fun e=> !Region.binds .any e||decide (e.on<k))&& !(o.op matches .select _ _)&&
  (ops.take k).zipIdx.all fun(p,i)=>(ms.getD k 0).testBit i||(Oper.apart ops.toArray p o&&Oper.apart ops.toArray o p&& (!clash (clsH hv p) (clsH hv o)||((aM7 cl p.op o.op||fL7 cl p.op o.op||fY1 p.op o.op)&& !hvO hv p&& !hvO hv o)||dJ2 cl hv p o))
def cP6(T:Tab)(ops:List Oper):Bool:=oO T [] [] ops
def okB(i:Nat)(v:V):Prop:=
 match v with
 | .box j _=>j=i
 | .bot=>True
 | .tup [] =>True
 | .lit _=>True
 | .sl _=>True
 | .cap _=>True
 | .fp _=>True
 | .arr _ _=>i=77777
 | .ae _ _ _ _ _=>i=77777
 |_=>False
def cO4(cl:List (Nat×Nat))(env:Nat->V):Prop:=List.rec (motive:=fun _=>Prop) True (fun q _ ih=>okB q.2 (env q.1)/\ih) cl
abbrev aA2:=St->(Exit->St->Prop)->Prop
def ofL{α:Type}(d:α)(l:List (Nat×α)):Nat->α:=
 List.rec (motive:=fun _=>Nat->α) (fun _=>d) (fun p _ ih s=>cond (Nat.beq s p.1) p.2 (ih s)) l
def ofO{α:Type}(l:List (Nat×α)):Nat->Option α:=
 List.rec (motive:=fun _=>Nat->Option α) (fun _=>none) (fun p _ ih s=>cond (Nat.beq s p.1) (some p.2) (ih s)) l
def mkSt(e:List (Nat×V))(b:List (Nat×List V))(r:List (Nat×AE)):St:=⟨ofL .bot e,ofO b,ofO r⟩
structure Ann where
 A:Type
 st:A->St
 inv:A->Prop
 m:A->Nat
structure dG2(T:Tab)(x y:aA2)(σ:St)(Q:Exit->St->Prop):Prop where
 out:(x σ fun e σ'=>match e with
  | .normal=>y σ' Q
  |e=>Q e σ')\/
 ∃C:Ann,(x σ fun e σ'=>match e with
  | .normal=>∃p,Le T σ' (C.st p)/\C.inv p
  |e=>Q e σ')/\∀p,C.inv p->y (C.st p) Q
structure bI0(T:Tab)(x:aA2)(σ:St)(Q:Exit->St->Prop):Prop where
 out:∃L:Ann,(∃p,Le T σ (L.st p)/\L.inv p)/\∀p,L.inv p->x (L.st p) fun e σ'=>match e with
  | .normal=>∃p',Le T σ' (L.st p')/\L.inv p'/\L.m p'<L.m p
  |e=>Q e σ'
structure aC9(T:Tab)(env:Nat->V)(ops:List Oper)(K:List (Nat×List Nat)->Prop):Prop where
 out:∃cl hv,cO4 cl env/\oO T cl hv ops=true/\K hv
def dG4(l:List Oper):List Nat:=List.rec (motive:=fun _=>List Nat) [] (fun o _ ih=>match o.dst with|some d=>d::ih|none=>ih) l
def dstsOf(c:Code):List Nat:=
 Code.rec (motive:=fun _=>List Nat) [] (fun _ ops _=>dG4 ops.toList) (fun _ _ a b=>appR a b) (fun _ _ _ a b=>appR a b) (fun _ _ a=>a) (fun _ a=>a)
  (fun _ ps _ _ a b=>appR ps.toList (appR a b)) (fun _=> []) (fun _ a=>a) (fun _=> []) (fun _=> []) [] (fun _=> []) c
def iC(c:Code):Bool:=
 Code.rec (motive:=fun _=>Bool) true (fun _ _ _=>true) (fun _ _ a b=>cond a b false) (fun _ _ _ a b=>cond a b false) (fun _ _ a=>a) (fun _ a=>a)
  (fun _ _ _ _ _ _=>false) (fun _=>true) (fun _ a=>a) (fun _=>true) (fun _=>false) true (fun _=>false) c
def sJ(wr:List Nat)(σ:St):St:=⟨fun s=>cond (memR s wr) .bot (σ.env s),σ.bx,σ.ar⟩
def cM2(ps:List Nat):List V->(Nat->V)->Nat->V:=
 List.rec (motive:=fun _=>List V->(Nat->V)->Nat->V) (fun _ env=>env) (fun p _ ih vs env=>match vs with|v::r=>ih r (upd env p v)| [] =>env) ps
structure aO0(T:Tab)(P:Program)(f:Operand)(g:FuncId)(caps:List V)(ps wr:List Nat)(x y:aA2)(σ:St)(Q:Exit->St->Prop):Prop where
 out:∃items:List (List V),aB0 T P g caps items/\(∀it∈items,it.length=ps.length)/\∃(A:Type) (st:A->St) (inv:Nat->A->Prop),
  (∃p,Le T σ (st p)/\inv 0 p/\(st p).ev f= .fn g caps)/\
  (∀k p it,inv k p->items[k]? =some it->x ⟨cM2 ps it (st p).env,(st p).bx,(st p).ar⟩ fun e σ1=>match e with
   | .normal=>y σ1 fun e σ2=>match e with
     | .normal=>∃p',Le T (sJ wr σ2) (st p')/\inv (k+1) p'
     | .ret=>Q .ret (sJ wr σ2)
     | .exit i=>Q (.exit i) (sJ wr σ2)
     |_=>False
   |_=>False)/\
  ∀p,inv items.length p->Q .normal (st p)
def nH(T:Tab)(P:Program)(n:Nat)(c:Code):aA2:=
 Code.rec (motive:=fun _=>aA2)
  (fun σ Q=>Q .normal σ)
  (fun _ ops draw σ Q=>match σ with|⟨env,bx,ar⟩=>match draw with
   |true=>aC9 T env ops.toList (fun hv=>aY0 T P (.drawn hv) n ops.toList ops.toList env bx ar (Q .normal))
   |false=>aY0 T P .free n ops.toList ops.toList env bx ar (Q .normal))
  (fun _ _ iha ihb=>dG2 T iha ihb)
  (fun c _ _ iht ihe σ Q=>match σ.ev c with
   | .lit (.bool b)=>branch b (iht σ Q) (ihe σ Q)
   |_=>False)
  (fun id _ ih σ Q=>ih σ fun e σ'=>match e with
   | .exit i=>cond (Nat.beq i id) (Q .normal σ') (Q (.exit i) σ')
   |e=>Q e σ')
  (fun _ ih=>bI0 T ih)
  (fun f ps x y ihx ihy σ Q=>match σ.ev f with
   | .fn g caps=>cond (allR V.still caps) (cond (iC x) (cond (iC y) (cond (allR (fun p=>Nat.blt p n) ps.toList) (aO0 T P f g caps ps.toList (appR ps.toList (appR (dstsOf x) (dstsOf y))) ihx ihy σ Q) False) False) False) False
   |_=>False)
  (fun id σ Q=>Q (.exit id) σ)
  (fun _ ih σ Q=>ih σ fun e σ'=>match e with
   | .goto _=>False
   |e=>Q e σ')
  (fun _ σ Q=>Q .normal σ)
  (fun _ _ _=>False)
  (fun σ Q=>Q .ret σ)
  (fun _ _ _=>False) c
def pF(ys:List V):Nat->Nat->V:=
 List.rec (motive:=fun _=>Nat->Nat->V) (fun _ _=> .tup []) (fun y _ ih j s=>cond (Nat.beq s j) (cond (linear y) (.arr j 0) y) (ih (j+1) s)) ys
def jK(ys:List V):Nat->Nat->Option AE:=
 List.rec (motive:=fun _=>Nat->Nat->Option AE) (fun _ _=>none) (fun y _ ih j s=>cond (Nat.beq s j) (match y with
  | .own e l=>some ⟨0, .own,e,l⟩
  | .ap e l=>some ⟨0, .ap,e,l⟩
  |_=>none) (ih (j+1) s)) ys
def uD(ys:List V):St:=⟨pF ys 0,fun _=>none,jK ys 0⟩
def aH3(T:Tab)(σ:St)(rs:List ResultVar):(List V->Prop)->Prop:=
 List.rec (motive:=fun _=>(List V->Prop)->Prop) (fun K=>K [])
  (fun x _ ih K=>match x with
   | .tmp t=>force (σ.env t) fun v=>ih fun vs=>K (v::vs)
   | .cell a t=>cond (Nat.blt t (T.n t)) (pW (T.row t) σ (σ.env a) fun v _=>ih fun vs=>K (v::vs)) False) rs
structure dF3(T:Tab)(σ:St)(rs:List ResultVar)(r:V):Prop where
 out:(aH3 T σ rs fun xs=>match xs with
  | [x] =>iQ T σ.ar [r] [x]/\iR [x] [r] =true/\(∀rs,r≠ .tup rs)
  |xs=>∃ys,r= .tup ys/\iQ T σ.ar ys xs/\iR xs ys=true)\/
  aH3 T σ rs fun xs=>match xs with
  | [x] =>∃ys cs,r= .tup (.bot::ys)/\x= .agg cs/\iQ T σ.ar ys cs/\iR cs ys=true
  |_=>False
structure dC6(T:Tab)(σ:St)(rs:List ResultVar)(r:V)(j:Nat)(e:TypeId)(l:List V):Prop where
 out:aH3 T σ rs fun xs=>match xs with
  | [x] =>iQ T σ.ar [r, .own e l] [x, .arr j 0]/\iR [x, .arr j 0] [r, .own e l] =true/\aH7 r=true/\(∀rs,r≠ .tup rs)
  |xs=>∃ys,r= .tup ys/\iQ T σ.ar (appR ys [.own e l]) (appR xs [.arr j 0])/\iR (appR xs [.arr j 0]) (appR ys [.own e l])=true
def fnIO(T:Tab)(P:Program)(fn:Func)(ys:List V)(r:V)(j:Nat)(e:TypeId)(l:List V):Prop:=
 match fn.body with
 |some c=>nH T P fn.ntmps c (uD ys) fun ex σ=>match ex with
  | .normal=>dC6 T σ fn.results.toList r j e l
  | .ret=>dC6 T σ fn.results.toList r j e l
  |_=>False
 |none=>False
def fnVC(T:Tab)(P:Program)(fn:Func)(ys:List V)(r:V):Prop:=
 match fn.body with
 |some c=>nH T P fn.ntmps c (uD ys) fun e σ=>match e with
  | .normal=>dF3 T σ fn.results.toList r
  | .ret=>dF3 T σ fn.results.toList r
  |_=>False
 |none=>False
def kdOf:Option TypeDesc->Kd
 |some .bool=> .bool
 |some (.int k)=> .int k
 |some .string=> .str
 |some (.slice _)=> .slice
 |some (.struct _)=> .struct
 |some (.array _ _)=> .array
 |some (.map _ _)=> .map
 |some (.pointer _)=> .ptr
 |_=> .other
def zeroOf(P:Program)(t:TypeId):Option Value:=(P.info? t).bind (·.zero)
def vI(P:Program)(t:TypeId):Nat:=((P.info? t).map (·.size)).getD 0
def aggB:Option TypeDesc->Bool
 |some (.struct _)=>true
 |some (.array _ _)=>true
 |_=>false
def mkRow(P:Program)(t:TypeId):Row:=
 {size:=vI P t
  bytes:=((P.info? t).map (·.bytes)).getD 0
  agg:=aggB (P.underlying t)
  kd:=kdOf (P.underlying t)
  elem:=match P.underlying t with|some (.slice e)=>e|some (.array _ e)=>e|some (.map _ e)=>e|_=>0
  alen:=match P.underlying t with|some (.array n _)=>n|some (.map k _)=>k|_=>0
  flds:=match P.underlying t with|some (.struct fs)=>fs.toList.map (fun f=>(f.offset,vI P f.type,kdOf (P.underlying f.type),f.type))|_=> []
  zero:=((zeroOf P t).map (·.cells.toList)).getD []
  eq:= !(P.stoodInHeld t)&& !(P.eqGuardType P.depth t)&& (match P.underlying t with|some (.struct fs)=>fs.toList.all (fun f=>f.name != "_")|some (.array _ _)=>true|_=>false)}
def cU3:Value->Bool
 | .agg _=>true
 |_=>false
def rowB(P:Program)(t:TypeId):Bool:=
 (P.info? t).isSome&& (P.underlying t).isSome&& (match zeroOf P t with
   |some z=>z.cells.toList.all Value.oneCell'&&z.cells.size==vI P t&&cU3 z==aggB (P.underlying t)
   |none=>false)&&
 (match P.underlying t with|some (.struct fs)=>fs.toList.all (fun f=>(P.info? f.type).isSome)|_=>true)
structure aH9(P:Program)(t:TypeId)(r:Row):Prop where
 eqs:r.eq=true->P.stoodInHeld t=false/\P.eqGuardType P.depth t=false/\∀fs,P.underlying t=some (.struct fs)->∀f∈fs,f.name≠ "_"
 info:∃i,P.info? t=some i/\i.size=r.size/\i.bytes=r.bytes/\∃z,i.zero=some z/\z.cells.toList=r.zero/\(∀c∈r.zero,c.oneCell'=true)/\r.zero.length=r.size/\(r.agg=true->∃cs,z= .agg cs)/\(r.agg=false->r.zero=[z])
 und:∃d,P.underlying t=some d/\r.kd=kdOf (some d)/\r.agg=aggB (some d)/\(∀e,d= .slice e->r.elem=e)/\(∀n e,d= .array n e->r.elem=e/\r.alen=n)/\(∀k e,d= .map k e->r.elem=e/\r.alen=k)/\
  (∀fs,d= .struct fs->r.flds=fs.toList.map (fun f=>(f.offset,vI P f.type,kdOf (P.underlying f.type),f.type))/\∀f∈fs,∃i,P.info? f.type=some i/\i.size=vI P f.type)
theorem eJ9{P:Program}{t:TypeId}(h:rowB P t=true):aH9 P t (mkRow P t):=by
 simp only[rowB,Bool.and_eq_true]at h;obtain⟨⟨⟨h1,h2⟩,h3⟩,h4⟩:=h;obtain⟨i,hi⟩:=Option.isSome_iff_exists.1 h1;obtain⟨d,hd⟩:=Option.isSome_iff_exists.1 h2
 cases hz:zeroOf P t with
 |none=>rw[hz]at h3;simp at h3
 |some z=>
  rw[hz]at h3;simp only[Bool.and_eq_true,List.all_eq_true,beq_iff_eq]at h3;obtain⟨⟨z1,z2⟩,z3⟩:=h3;have hzi:i.zero=some z:=by simpa [zeroOf,hi]using hz
  constructor
  ·intro he
   simp only[mkRow,Bool.and_eq_true,Bool.not_eq_true']at he;refine⟨he.1.1,he.1.2,fun fs hfs f hf=>?_⟩;have h3:=he.2
   rw[hfs]at h3;simp only[List.all_eq_true,bne_iff_ne]at h3;exact h3 f F9
  ·refine⟨i,hi,by simp[mkRow,vI,hi],by simp[mkRow,hi],z,hzi,by simp[mkRow,hz],?_,?_,?_,?_⟩
   ·simpa [mkRow,hz]using z1
   ·simpa [mkRow,hz]using z2
   ·intro ha
    simp only[mkRow]at ha;rw[ha]at z3;cases z<;>simp[cU3]at z3;exact⟨_,rfl⟩
   ·intro ha
    simp only[mkRow]at ha;rw[ha]at z3;simp only[mkRow,hz,Option.map_some,Option.getD_some];cases z<;>simp_all [cU3,Value.cells]
  ·refine⟨d,hd,by simp[mkRow,hd],by simp[mkRow,hd],?_,?_,?_,?_⟩
   ·rintro e rfl;simp[mkRow,hd]
   ·rintro n e rfl;simp[mkRow,hd]
   ·rintro k e rfl;simp[mkRow,hd]
   ·rintro fs rfl
    rw[hd]at h4;simp only[List.all_eq_true]at h4;refine⟨by simp[mkRow,hd],fun f hf=>?_⟩
    obtain⟨fi,hfi⟩:=Option.isSome_iff_exists.1 (h4 f F9);exact⟨fi,hfi,by simp[vI,hfi]⟩
def bP(T:Tab)(P:Program):Prop:=∀t,t<T.n t->aH9 P t (T.row t)
def memT(k:Nat)(l:List Nat):Bool:=List.rec (motive:=fun _=>Bool) false (fun x _ ih=>cond (Nat.beq k x) true ih) l
def tabOf(P:Program)(n:Nat)(bad:List Nat):Tab:=⟨fun t=>cond (memT t bad) 0 n,mkRow P,fun _ _=>True,fun _ h=>h,fun _=>false⟩
def tabOfL(P:Program)(n:Nat)(bad:List Nat)(lay:World->(Nat->Prop)->Prop)(hm:∀ {w w':World} {F F':Nat->Prop},(∀b,F b->F' b/\w'.heap[b]? =w.heap[b]?)->lay w F->lay w' F'):Tab:=⟨fun t=>cond (memT t bad) 0 n,mkRow P,lay,hm,fun _=>false⟩
def eD6(P:Program)(n:Nat)(bad:List Nat)(lay:World->(Nat->Prop)->Prop)(hm:∀ {w w':World} {F F':Nat->Prop},(∀b,F b->F' b/\w'.heap[b]? =w.heap[b]?)->lay w F->lay w' F')(rf:List Nat):Tab:=⟨fun t=>cond (memT t bad) 0 n,mkRow P,lay,hm,fun g=>memT g rf⟩
theorem uN{α:Type}(l:List α):∀n,nth l n=l[n]? :=by
 induction l with
 |nil=>intro n;rfl
 |cons x r ih=>
  intro n
  cases n with
  |zero=>rfl
  |succ n=>exact(ih n).trans Ae
theorem eJ2{P:Program}{n:Nat}{bad:List Nat}(h:(List.range n).all (fun t=>memT t bad||rowB P t)=true):bP (tabOf P n bad) P:=by
 intro t ht;have ht':t<cond (memT t bad) 0 n:=ht
 cases hb:memT t bad with
 |true=>rw[hb]at ht';exact absurd ht' (Nat.not_lt_zero t)
 |false=>
  rw[hb]at ht';have:=List.all_eq_true.1 h t (List.mem_range.2 ht');rw[hb,Bool.false_or]at this;exact eJ9 this
theorem dM2{P:Program}{n:Nat}{bad:List Nat}{lay:World->(Nat->Prop)->Prop}{hm:∀ {w w':World} {F F':Nat->Prop},(∀b,F b->F' b/\w'.heap[b]? =w.heap[b]?)->lay w F->lay w' F'}{rf:List Nat}(h:(List.range n).all (fun t=>memT t bad||rowB P t)=true):bP (eD6 P n bad lay hm rf) P:=eJ2 h
section lists
variable{α β:Type}
theorem aD3(l:List α):∀n,rO l n=l.take n:=by
 induction l with
 |nil=>intro n;simp[rO]
 |cons x r ih=>
  intro n
  cases n with
  |zero=>rfl
  |succ n=>exact congrArg (x::·) (ih n)
theorem lQ(l:List α):∀n,jX l n=l.drop n:=by
 induction l with
 |nil=>intro n;simp[jX]
 |cons x r ih=>
  intro n
  cases n with
  |zero=>rfl
  |succ n=>exact ih n
theorem bT(l m:List α):appR l m=l++m:=by
 induction l with
 |nil=>rfl
 |cons x r ih=>exact congrArg (x::·) ih
theorem iL(l:List α):lenR l=l.length:=by
 induction l with
 |nil=>rfl
 |cons x r ih=>exact congrArg Nat.succ ih
theorem dU(f:α->β)(l:List α):mapR f l=l.map f:=by
 induction l with
 |nil=>rfl
 |cons x r ih=>exact congrArg (f x::·) ih
theorem eL7(f:α->Bool)(l:List α):allR f l=l.all f:=by
 induction l with
 |nil=>rfl
 |cons x r ih=>
  show cond (f x) (allR f r) false=_;rw[ih];cases h:f x<;>simp[h]
theorem dY{f:α->Bool}{l:List α}:allR f l=true↔∀x∈l,f x=true:=by rw[eL7];exact List.all_eq_true
end lists
theorem mO(cs:List V)(off:Nat)(xs:List V):splice cs off xs=cs.take off++(xs++cs.drop (off+xs.length)):=by
 simp[splice,aD3,lQ,bT,iL]
theorem force_eq(v:V)(K:V->Prop):force v K=K v:=by cases v<;>rfl
theorem bC(l:List V):∀K:List V->Prop,bJ l K=K l:=by
 induction l with
 |nil=>intro K;rfl
 |cons x r ih=>
  intro K;show force x (fun x'=>bJ r fun r'=>K (x'::r'))=_;rw[force_eq,ih]
theorem aT{b:Bool}{p:Prop}(h:cond b p False):b=true/\p:=by cases b<;>simp_all
theorem blt{a b:Nat}(h:Nat.blt a b=true):a<b:=by simpa [Nat.blt_eq]using h
theorem dX{p K:Prop}(h:need p K):p/\K:=DY
theorem wI{k:IntKind}{n:Int}{K:Int->Prop}(h:arith k n K):K (k.wrap n):=DY
theorem cC4{xs:List V}{K:List Int->Prop}(h:aZ0 xs K):∃ns:List Int,xs=ns.map (fun n=>V.lit (.int .u8 n))/\K ns:=DY
theorem cO3{l:List V}{i:Nat}{K:V->Prop}(h:idx l i K):∃x,l[i]? =some x/\K x:=DY
theorem bL0{x:V}{p:Nat->Prop}{q:Nat->Nat->Prop}(h:x.still=true)(hok:x.ok p q):x.pure:=by
 cases x with
 |lit u=>simp only[V.pure,V.ok]
 |fp l=>simp only[V.pure,V.ok]at hok⊢;exact hok
 |_=>simp[V.still]at h
theorem wC{l:List V}{p:Nat->Prop}{q:Nat->Nat->Prop}(h:allR V.still l=true)(hok:V.okL p q l):bM l:=
 aH.2 fun x hx=>bL0 (dY.1 h x hx) (aH.1 hok x hx)
theorem fn_atom_pure{g:FuncId}{l:List V}{p:Nat->Prop}{q:Nat->Nat->Prop}(h:(V.fn g l).atom=true)(hok:(V.fn g l).ok p q):(V.fn g l).pure:=by
 have h':cond (isMapC l) true (allR V.still l)=true:=h;simp only[V.pure,V.ok]at hok⊢
 cases hm:isMapC l with
 |false=>rw[hm]at h';exact wC h' hok
 |true=>
  unfold isMapC at hm;split at hm
  ·simp only[V.okL,V.ok]at hok⊢;exact hok
  ·cases hm
theorem cells_one{v:Value}(h:v.oneCell'=true):v.cells= #[v] :=by cases v<;>simp_all [Value.oneCell',Value.cells]
theorem add_block(a:Addr)(n:Nat):(a.add n).block=a.block:=ER
theorem add_add'(a:Addr)(i j:Nat):(a.add i).add j=a.add (i+j):=by
 unfold Addr.add;by_cases hi:i=0<;>by_cases hj:j=0<;>simp[hi,hj,Nat.add_assoc]
theorem rY(b o n:Nat):(⟨b,o,none⟩:Addr).add n=⟨b,o+n,none⟩:=by unfold Addr.add;split<;>simp_all
theorem add_zero'(a:Addr):a.add 0=a:=by simp[Addr.add]
theorem Rv.cells{w:World}{G:Gh}{v:Value}{x:V}(h:Rv w G v x)(h1:∀y∈x.cells,y.one=true):RvL w G v.cells.toList x.cells:=by
 have single:x.cells=[x]->v.oneCell'=true->RvL w G v.cells.toList x.cells:=by
  intro hx hv;rw[hx,cells_one hv];refine⟨rfl,AZ,fun i u y hu hy=>?_⟩
  cases i with
  |zero=>simp at hu hy;subst hu;subst hy;exact h
  |succ i=>simp at hu
 cases h with
 |bot v=>simp[V.cells,V.one]at h1
 |lit u hu=>exact single rfl hu
 |agg cs xs hl ho hh=>exact⟨by simpa [Value.cells,V.cells]using hl,by simpa [Value.cells]using ho,fun i c x hc hx=>hh i c x (by simpa [Value.cells]using hc) hx⟩
 |tup cs xs hl hh=>simp[V.cells,V.one]at h1
 |slN=>exact single rfl rfl
 |slS=>exact single rfl rfl
 |capN=>exact single rfl rfl
 |capS=>exact single rfl rfl
 |box i off=>exact single rfl rfl
 |arr k g hh=>exact single rfl hh
 |fp=>exact single rfl rfl
 |ae=>exact single rfl rfl
 |fn=>exact single rfl rfl
 |fb=>exact single rfl rfl
 |mp=>exact single rfl rfl
theorem Rv.bH{w:World}{G:Gh}{v u:Value}(h:Rv w G v (.lit u)):v=u:=by cases h;rfl
theorem Rv.aZ3{w:World}{G:Gh}{v u:Value}(h:Rv w G v (.lit u)):u.oneCell'=true:=by cases h;assumption
theorem Rv.zV{w:World}{G:Gh}{v:Value}{xs:List V}(h:Rv w G v (.agg xs)):∃cs:Array Value,v= .agg cs/\cs.size=xs.length/\(∀c∈cs,c.oneCell'=true)/\∀(i:Nat) c x,cs[i]? =some c->xs[i]? =some x->Rv w G c x:=by
 cases h with
 |agg cs xs hl ho hh=>exact⟨cs,rfl,hl,ho,hh⟩
theorem Rv.eP1{w:World}{G:Gh}{v:Value}{xs:List V}(h:Rv w G v (.tup xs)):∃cs:Array Value,v= .tuple cs/\cs.size=xs.length/\∀(i:Nat) c x,cs[i]? =some c->xs[i]? =some x->Rv w G c x:=by
 cases h with
 |tup cs xs hl hh=>exact⟨cs,rfl,hl,hh⟩
theorem Rv.bI6{w:World}{G:Gh}{v:Value}{i off:Nat}(h:Rv w G v (.box i off)):v= .pointer (some ⟨G.β i,off,none⟩):=by cases h;rfl
theorem Rv.oQ{w:World}{G:Gh}{v:Value}{k g:Nat}(h:Rv w G v (.arr k g)):v=G.av k g:=by cases h;rfl
theorem Rv.cW5{w:World}{G:Gh}{v:Value}{cs:List V}(h:Rv w G v (.fp cs)):∃(a:Addr) (cc:Nat->Value),v= .pointer (some a)/\(cs≠ []->G.O a.block= .fz)/\At w a cc cs/\∀(j:Nat) y,cs[j]? =some y->Rv w G (cc j) y:=by
 cases h with
 |fp a cs cc hf hc hh=>exact⟨a,cc,rfl,hf,hc,hh⟩
theorem Rv.cU8{w:World}{G:Gh}{v:Value}{g:FuncId}{caps:List V}(h:Rv w G v (.fn g caps))(hc:isFnC caps=true):(∃lb:Array Value,v= .func (.func g) #[] lb/\lb.size=caps.length/\∀(i:Nat) c x,lb[i]? =some c->caps[i]? =some x->Rv w G c x)\/
 ∃(fs:Array Value) (cs:List V),v= .func (.func g) fs #[]/\caps= .own 0 [] ::cs/\fs.size=cs.length/\∀(i:Nat) c x,fs[i]? =some c->cs[i]? =some x->Rv w G c x:=by
 cases h with
 |fn g lb caps hl hh=>exact .inl ⟨lb,rfl,hl,hh⟩
 |fb g fs caps hl hh=>exact .inr ⟨fs,caps,rfl,rfl,hl,hh⟩
 |mp=>cases hc
theorem Rv.mp_inv{w:World}{G:Gh}{v kz:Value}{g:FuncId}{es:List V}(h:Rv w G v (.fn g [.ap 0 [], .lit kz, .sl es])):∃(b:Nat) (ents:Array MapEntry) (clock:Nat) (val:Value->Value),v= .map (some b)/\w.heap[b]? =some (.map ents clock)/\(∀s,MapKept.IsKey (litD kz) s->jG s es=none->Instr.findNow (litD kz) s ents.toList 0=some none)/\
 (∀s x,MapKept.IsKey (litD kz) s->jG s es=some x->(∃i,Instr.findNow (litD kz) s ents.toList 0=some (some (i,val s)))/\(val s).oneCell'=true)/\∀s x,MapKept.IsKey (litD kz) s->jG s es=some x->Rv w G (val s) x:=by
 cases h with
 |fn g lb caps hl hh=>
  have h0:0<lb.size:=by rw[hl];simp
  have:=hh 0 lb[0] (.ap 0 []) (by simp[h0]) rfl
  generalize lb[0] =u at this;cases this
 |mp b ents clock g kz es val hO hw hk hn hs hh=>exact⟨b,ents,clock,val,rfl,hw,hn,hs,hh⟩
theorem Rv.fn_cap{w:World}{G:Gh}{v:Value}{g:FuncId}{caps:List V}(h:Rv w G v (.fn g caps))(hc:isFnC caps=true)(hm:∀cs,caps≠ .own 0 [] ::cs):∃lb:Array Value,v= .func (.func g) #[] lb/\lb.size=caps.length/\∀(i:Nat) c x,lb[i]? =some c->caps[i]? =some x->Rv w G c x:=by
 rcases h.cU8 hc with h|⟨_,cs,_,e,_⟩
 ·exact h
 ·exact absurd e (hm cs)
theorem Rv.fn_args{w:World}{G:Gh}{v:Value}{g:FuncId}{caps:List V}(h:Rv w G v (.fn g caps))(hc0:isFnC caps=true)(as:List Value)(xs:List V)(hl:as.length=xs.length)(hx:∀(i:Nat) v x,as[i]? =some v->xs[i]? =some x->Rv w G v x):
 ∃fs lb:Array Value,v= .func (.func g) fs lb/\(fs.toList++as++lb.toList).length=(argsV caps xs).length/\∀(i:Nat) v x,(fs.toList++as++lb.toList)[i]? =some v->(argsV caps xs)[i]? =some x->Rv w G v x:=by
 have app:∀(as bs:List Value) (xs ys:List V),as.length=xs.length->bs.length=ys.length->(∀(i:Nat) v x,as[i]? =some v->xs[i]? =some x->Rv w G v x)->(∀(i:Nat) v x,bs[i]? =some v->ys[i]? =some x->Rv w G v x)->
  (as++bs).length=(xs++ys).length/\∀(i:Nat) v x,(as++bs)[i]? =some v->(xs++ys)[i]? =some x->Rv w G v x:=by
  intro as bs xs ys h1 h2 h3 h4;refine⟨by rw[List.length_append,List.length_append,h1,h2],fun i v x hv hx=>?_⟩
  rcases Nat.lt_or_ge i as.length with hi|hi
  ·rw[List.getElem?_append_left hi]at hv
   rw[List.getElem?_append_left Aa]at hx;exact h3 i v x hv hx
  ·rw[List.getElem?_append_right hi]at hv
   rw[List.getElem?_append_right Aa,<-h1]at hx;exact h4 _ v x hv hx
 have hcase:(∃lb:Array Value,v= .func (.func g) #[] lb/\(∀e l cs,caps≠ .own e l::cs)/\lb.size=caps.length/\∀(i:Nat) c x,lb[i]? =some c->caps[i]? =some x->Rv w G c x)\/
  ∃(fs:Array Value) (cs:List V),v= .func (.func g) fs #[]/\caps= .own 0 [] ::cs/\fs.size=cs.length/\∀(i:Nat) c x,fs[i]? =some c->cs[i]? =some x->Rv w G c x:=by
  rcases h.cU8 hc0 with⟨lb,e1,e2,e3⟩|h
  ·refine .inl ⟨lb,e1,fun e l cs he=>?_,e2,e3⟩
   subst he;have h0:0<lb.size:=by rw[e2];simp
   have:=e3 0 lb[0] (.own e l) (by simp[h0]) rfl
   generalize lb[0] =u at this;cases this
  ·exact .inr h
 rcases hcase with⟨lb,e1,e0,e2,e3⟩|⟨fs,cs,e1,rfl,e2,e3⟩
 ·have ea:argsV caps xs=xs++caps:=by
   unfold argsV;split
   ·exact absurd rfl (e0 _ _ _)
   ·exact bT _ _
  rw[ea];refine⟨#[],lb,e1,?_⟩;exact app as lb.toList xs caps hl F5 hx (fun i v x hv hx=>e3 i v x AZ hx)
 ·have ea:argsV (.own 0 [] ::cs) xs=cs++xs:=by
   unfold argsV;exact bT _ _
  rw[ea];refine⟨fs, #[],e1,?_⟩;simp only[List.append_nil];exact app fs.toList as cs xs F5 hl (fun i v x hv hx=>e3 i v x AZ hx) hx
theorem Rv.dA8{w:World}{G:Gh}{v:Value}{k g sz i off:Nat}(h:Rv w G v (.ae k g sz i off)):∃(a:Addr) (n c:Nat),v= .pointer (some (a.add (i*sz+off)))/\G.av k g= .slice (some a) n c:=by
 cases h with
 |ae k g sz i off a n c hh=>exact⟨a,n,c,rfl,hh⟩
theorem Rv.bK8{w:World}{G:Gh}{v:Value}{l:List V}(h:Rv w G v (.sl l)):(v= .slice none 0 0/\l=[])\/∃(a:Addr) (c sz:Nat) (cc:Nat->Value),v= .slice (some a) l.length c/\l.length<=c/\c<=maxLen/\(0<l.length->G.O a.block= .fz)/\(∀x∈l,x.cells.length=sz)/\At w a cc (l.flatMap V.cells)/\∀(j:Nat) y,(l.flatMap V.cells)[j]? =some y->Rv w G (cc j) y:=by
 cases h with
 |slN=>exact .inl ⟨rfl,rfl⟩
 |slS a c l sz cc hc hm hf hz hcell hh=>exact .inr ⟨a,c,sz,cc,rfl,hc,hm,hf,hz,hcell,hh⟩
theorem Rv.vP{w:World}{G:Gh}{v:Value}{l:List V}(h:Rv w G v (.cap l)):(v= .slice none 0 0/\l=[])\/∃(a:Addr) (sz:Nat) (cc:Nat->Value),v= .slice (some a) l.length l.length/\l.length<=maxLen/\(0<l.length->G.O a.block= .fz)/\(∀x∈l,x.cells.length=sz)/\At w a cc (l.flatMap V.cells)/\∀(j:Nat) y,(l.flatMap V.cells)[j]? =some y->Rv w G (cc j) y:=by
 cases h with
 |capN=>exact .inl ⟨rfl,rfl⟩
 |capS a l sz cc hm hf hz hcell hh=>exact .inr ⟨a,sz,cc,rfl,hm,hf,hz,hcell,hh⟩
theorem Rv.wK{w:World}{G:Gh}{v:Value}{l:List V}(h:Rv w G v (.cap l)):Rv w G v (.sl l):=by
 cases h with
 |capN=>exact .slN
 |capS a l sz cc hm hf hz hcell hh=>exact .slS a l.length l sz cc (Nat.le_refl _) hm hf hz hcell hh
theorem sF{p:Nat->Prop}{q:Nat->Nat->Prop}{x:V}(h:x.ok p q):V.okL p q x.cells:=by
 cases x<;>simp_all [V.cells,V.ok,V.okL]
theorem Inv.ev{T:Tab}{Φ:Fr}{σ:St}{a:Act}{w:World}{G:Gh}(inv:Inv T Φ σ a w G)(x:Operand):Rv w G (a.eval x) (σ.ev x)/\(σ.ev x).ok σ.hasB σ.hasA:=by
 cases x with
 |tmp t=>exact⟨inv.env t,inv.wfE t⟩
 |const v=>
  simp only[Act.eval,St.ev];unfold dD8;split
  ·rename_i cs
   by_cases hc:allR Value.oneCell' cs.toList=true
   ·rw[hc]
    have hall:=dY.1 hc;refine⟨Rv.agg cs _ (by simp[dU]) (by simpa using hall) fun i c x hc hx=>?_,?_⟩
    ·rw[dU,List.getElem?_map]at hx
     have:cs.toList[i]? =some c:=BZ;rw[this]at hx;simp at hx;subst hx;exact .lit c (hall c (List.mem_of_getElem? this))
    ·simp only[cond_true,V.ok,aH,dU,List.mem_map]
     rintro x ⟨c,_,rfl⟩;simp only[V.ok]
   ·rw[Bool.not_eq_true]at hc
    rw[hc];exact⟨.bot _,by simp only[cond_false,V.ok]⟩
  ·exact⟨.bot _,Bl⟩
  ·rename_i h1 h2
   refine⟨.lit v ?_,Bl⟩;cases v<;>simp_all [Value.oneCell']
 |global g=>exact⟨.bot _,by simp only[St.ev,V.ok]⟩
 |func f=>exact⟨.fn f #[] [] rfl (fun i c x hc=>Gs),by simp only[St.ev,V.ok,V.okL]⟩
def Out(T:Tab)(Φ:Fr)(σ:St)(a:Act)(K:VK)(res:Result Next):Prop:=
 ∃v' w' v ms G',(res= .ok (.value v') w'\/(res= .ok .skip w'/\v'=undef))/\K v ms/\Inv T Φ (σ.apps ms) a w' G'/\Rv w' G' v' v/\v.ok (σ.apps ms).hasB (σ.apps ms).hasA
theorem Out.plain{T:Tab}{Φ:Fr}{σ:St}{a:Act}{w:World}{G:Gh}{K:VK}{res:Result Next}{v':Value}{v:V}(inv:Inv T Φ σ a w G)(hr:res= .ok (.value v') w)(hk:K v [])(hv:Rv w G v' v)(ho:v.ok σ.hasB σ.hasA):Out T Φ σ a K res:=
 ⟨v',w,v,[],G, .inl hr,hk,inv,hv,ho⟩
end Go.Ab
