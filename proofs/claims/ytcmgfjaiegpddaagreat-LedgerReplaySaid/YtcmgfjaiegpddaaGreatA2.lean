/- Lemmas. -/
import Derived.Test.YtcmgfjaiegpddaaGreatA1
set_option linter.all false
noncomputable section
namespace Go.Ab
def yH(ar:Nat->Option AE)(x y:V):Prop:=
 match y with
 | .sl l=>match x with
   | .sl l'=>l'=l
   | .cap l'=>l'=l
   | .lit (.slice none 0 0)=>l=[]
   | .arr k g=>match ar k with
     |some en=>en.gen=g/\en.kind≠ .dead/\en.l=l
     |none=>False
   |_=>False
 | .cap l=>match x with
   | .cap l'=>l'=l
   | .lit (.slice none 0 0)=>l=[]
   |_=>False
 | .lit u=>match x with
   | .lit u'=>u'=u
   |_=>False
 | .fp l=>match x with
   | .fp l'=>l'=l
   |_=>False
 | .fn g l=>match x with
   | .fn g' l'=>g'=g/\l'=l/\(V.fn g l).atom=true
   |_=>False
 |_=>False
def cN9(ar:Nat->Option AE)(ys:List V):List V->Prop:=
 List.rec (motive:=λ_=>List V->Prop) (λxs=>match xs with| [] =>True|_::_=>False)
  (λy _ ih xs=>match xs with|x::xr=>yH ar x y/\ih xr| [] =>False) ys
def wU(T:Tab)(ar:Nat->Option AE)(x y:V):Prop:=
 match y with
 | .own e l=>match x with
   | .lit (.slice none 0 0)=>e<T.n e/\l=[]
   | .arr k g=>match ar k with
     |some en=>en.gen=g/\en.kind= .own/\en.ty=e/\en.l=l
     |none=>False
   |_=>False
 | .ap e l=>match x with
   | .lit (.slice none 0 0)=>e<T.n e/\l=[]
   | .cap l'=>e<T.n e/\(∀x∈l',x.cells.length=(T.row e).size)/\l'=l
   | .arr k g=>match ar k with
     |some en=>en.gen=g/\(en.kind= .own\/en.kind= .ap)/\en.ty=e/\en.l=l
     |none=>False
   |_=>False
 | .agg ys=>match x with
   | .agg xs=>cN9 ar ys xs
   |_=>False
 |y=>yH ar x y
def iQ(T:Tab)(ar:Nat->Option AE)(ys:List V):List V->Prop:=
 List.rec (motive:=λ_=>List V->Prop) (λxs=>match xs with| [] =>True|_::_=>False)
  (λy _ ih xs=>match xs with|x::xr=>wU T ar x y/\ih xr| [] =>False) ys
def akey(x:V):List Nat:=match x with| .arr k _=> [k] |_=> []
def jQ(x:V):List Nat:=
 match x with
 | .arr k _=> [k]
 | .agg cs=>List.rec (motive:=λ_=>List Nat) [] (λx _ ih=>appR (akey x) ih) cs
 |_=> []
def linear(y:V):Bool:=match y with| .own _ _=>true| .ap _ _=>true|_=>false
def bD(ys:List V):List V->List Nat:=
 List.rec (motive:=λ_=>List V->List Nat) (λ_=> []) (λy _ ih xs=>match xs with|x::xr=>appR (cond (linear y) (jQ x) []) (ih xr)| [] => []) ys
def bK(ys:List V):List V->List Nat:=
 List.rec (motive:=λ_=>List V->List Nat) (λ_=> []) (λy _ ih xs=>match xs with|x::xr=>appR (cond (linear y) [] (jQ x)) (ih xr)| [] => []) ys
def memR(k:Nat)(l:List Nat):Bool:=List.rec (motive:=λ_=>Bool) false (λx _ ih=>cond (Nat.beq k x) true ih) l
def aE7(l:List Nat):Bool:=List.rec (motive:=λ_=>Bool) true (λx r ih=>cond (memR x r) false ih) l
def bR6(x:V):Bool:=match x with| .lit _=>true|_=>false
def sS(x:V):Bool:=match x with| .lit _=>true| .agg cs=>allR bR6 cs|_=>false
def aH7(x:V):Bool:=match x with| .lit _=>true| .agg cs=>allR bR6 cs| .tup cs=>allR sS cs|_=>false
def iR(xs ys:List V):Bool:=aE7 (bD ys xs)&&allR (λk=> !memR k (bK ys xs)) (bD ys xs)
def aX(σ:St)(ks:List Nat):List Mod:=
 List.rec (motive:=λ_=>List Mod) [] (λk _ ih=>match σ.ar k with|some en=> .a k ⟨en.gen, .dead,en.ty,[]⟩::ih|none=>ih) ks
def aV(σ:St)(ks:List Nat):List Mod:=
 List.rec (motive:=λ_=>List Mod) [] (λk _ ih=>match σ.ar k with
  |some en=>match en.kind with
   | .own=> .a k ⟨en.gen, .frz,en.ty,en.l⟩::ih
   | .ap=> .a k ⟨en.gen, .frz,en.ty,en.l⟩::ih
   | .frz=>ih
   | .dead=>match en.l with| [] =>ih|_::_=> .a k ⟨en.gen, .dead,en.ty,[]⟩::ih
  |none=>ih) ks
def reuse(σ:St)(ks:List Nat):Option (Nat×Nat):=
 match ks with
 |k::_=>match σ.ar k with
  |some en=>some (k,en.gen+1)
  |none=>none
 | [] =>none
def uF(σ:St)(d:Nat)(rs:List V):Nat->Option (Nat×Nat)->(List V->List Mod->Prop)->Prop:=
 List.rec (motive:=λ_=>Nat->Option (Nat×Nat)->(List V->List Mod->Prop)->Prop) (λ_ _ K=>K [] [])
  (λy _ ih j ro K=>match y with
   | .own e l=>match ro with
     |some (k,g)=>ih (j+1) none λvs ms=>K (.arr k g::vs) (.a k ⟨g, .own,e,l⟩::ms)
     |none=>match σ.ar (d+1000*j)with
      |none=>ih (j+1) none λvs ms=>K (.arr (d+1000*j) 0::vs) (.a (d+1000*j) ⟨0, .own,e,l⟩::ms)
      |some _=>False
   | .ap e l=>match ro with
     |some (k,g)=>ih (j+1) none λvs ms=>K (.arr k g::vs) (.a k ⟨g, .ap,e,l⟩::ms)
     |none=>match σ.ar (d+1000*j)with
      |none=>ih (j+1) none λvs ms=>K (.arr (d+1000*j) 0::vs) (.a (d+1000*j) ⟨0, .ap,e,l⟩::ms)
      |some _=>False
   |y=>force y λy=>ih (j+1) ro λvs ms=>K (y::vs) ms) rs
def zZ(σ:St)(d:Nat)(ro:Option (Nat×Nat))(r:V)(K:VK):Prop:=
 match r with
 | .tup (.bot::rs)=>uF σ d rs 0 ro λvs ms=>K (.agg vs) ms
 | .tup rs=>uF σ d rs 0 ro λvs ms=>K (.tup vs) ms
 |r=>uF σ d [r] 0 ro λvs ms=>match vs with|v::_=>K v ms| [] =>False
def sO(light lend:Bool)(xs ys:List V)(r:V):Bool:=
 iR xs ys&&Nat.ble (lenR (bD ys xs)) 1&& (cond lend (aH7 r) true)&& (cond light (Nat.beq (lenR (bD ys xs)) 0&& (lend||Nat.beq (lenR (bK ys xs)) 0)) true)
def bU9(is:List Nat)(x y:V):Prop:=
 match y with
 | .box b off=>match x with
   | .box i off'=>nth is (Nat.sub b 100000)=some i/\Nat.ble 100000 b=true/\off'=off
   |_=>False
 | .fp l=>match x with| .fp l'=>l'=l|_=>False
 | .lit u=>match x with| .lit u'=>u'=u|_=>False
 | .own e l=>match x with| .own e' l'=>e'=e/\l'=l|_=>False
 |_=>False
def refL(is:List Nat)(ys:List V):List V->Prop:=
 List.rec (motive:=λ_=>List V->Prop) (λxs=>match xs with| [] =>True|_::_=>False)
  (λy _ ih xs=>match xs with|x::xr=>bU9 is x y/\ih xr| [] =>False) ys
def aP8(T:Tab)(ar:Nat->Option AE)(is:List Nat)(x y:V):Prop:=
 match y with
 | .bot=>True
 | .box b off=>bU9 is x (.box b off)
 | .fn g ys=>match x with| .fn g' xs=>cond (isMapC ys) (g'=g/\xs=ys) (g'=g/\refL is ys xs)|_=>False
 |y=>wU T ar x y
def bI2(T:Tab)(ar:Nat->Option AE)(is:List Nat)(ys:List V):List V->Prop:=
 List.rec (motive:=λ_=>List V->Prop) (λxs=>match xs with| [] =>True|_::_=>False)
  (λy _ ih xs=>match xs with|x::xr=>aP8 T ar is x y/\ih xr| [] =>False) ys
def eU(bx:Nat->Option (List V))(bs:List (List V)):List Nat->List (List V×List V):=
 List.rec (motive:=λ_=>List Nat->List (List V×List V)) (λ_=> []) (λb _ ih is=>match is with
  |i::ir=>(match bx i with|some cs=>cs|none=> [],b)::ih ir
  | [] => []) bs
def xM(T:Tab)(ar:Nat->Option AE)(is:List Nat)(gs:List (List V×List V)):Prop:=
 List.rec (motive:=λ_=>Prop) True (λg _ ih=>bI2 T ar is g.2 g.1/\ih) gs
def ownG(gs:List (List V×List V)):List Nat:=List.rec (motive:=λ_=>List Nat) [] (λg _ ih=>appR (bD g.2 g.1) ih) gs
def mF(gs:List (List V×List V)):List Nat:=List.rec (motive:=λ_=>List Nat) [] (λg _ ih=>appR (bK g.2 g.1) ih) gs
def V.ren(f:Nat->Nat)(x:V):V:=
 V.rec (motive_1:=λ_=>V) (motive_2:=λ_=>List V)
   .bot (λu=> .lit u) (λ_ ih=> .agg ih) (λ_ ih=> .tup ih) (λl _=> .sl l) (λl _=> .cap l) (λe l _=> .own e l) (λe l _=> .ap e l)
   (λj off=> .box (f j) off) (λk g=> .arr k g) (λl _=> .fp l) (λk g z i o=> .ae k g z i o) (λg _ ih=> .fn g ih)
   [] (λ_ _ ih1 ih2=>ih1::ih2) x
def nthD(is:List Nat)(n:Nat):Nat:=match nth is n with|some i=>i|none=>0
def renF(is:List Nat)(b:Nat):Nat:=nthD is (Nat.sub b 100000)
def xO(ar:Nat->Option AE)(ok:List Nat)(N:Nat)(kd:AK)(e:TypeId)(l:List V)(x:V)(K:V->Mod->Prop):Prop:=
 match x with
 | .arr k _=>match memR k ok with
   |true=>match ar k with
    |some en=>K (.arr k (en.gen+1)) (.a k ⟨en.gen+1,kd,e,l⟩)
    |none=>False
   |false=>match ar N with
    |none=>K (.arr N 0) (.a N ⟨0,kd,e,l⟩)
    |some _=>False
 |_=>match ar N with
  |none=>K (.arr N 0) (.a N ⟨0,kd,e,l⟩)
  |some _=>False
def oJ(ar:Nat->Option AE)(is ok:List Nat)(ys:List V):List V->Nat->(List V->List Mod->Prop)->Prop:=
 List.rec (motive:=λ_=>List V->Nat->(List V->List Mod->Prop)->Prop) (λxs _ K=>match xs with| [] =>K [] [] |_::_=>False)
  (λy _ ih xs N K=>match xs with
   | [] =>False
   |x::xr=>match y with
    | .own e l=>xO ar ok N .own e l x λv m=>ih xr (N+1000) λvs ms=>K (v::vs) (m::ms)
    | .ap e l=>xO ar ok N .ap e l x λv m=>ih xr (N+1000) λvs ms=>K (v::vs) (m::ms)
    |y=>force (y.ren (renF is)) λv=>ih xr (N+1000) λvs ms=>K (v::vs) ms) ys
def aB3(bx:Nat->Option (List V))(ar:Nat->Option AE)(is0 ok:List Nat)(bs:List (List V)):List Nat->Nat->(List Mod->Prop)->Prop:=
 List.rec (motive:=λ_=>List Nat->Nat->(List Mod->Prop)->Prop) (λis _ K=>match is with| [] =>K [] |_::_=>False)
  (λb _ ih is N K=>match is with
   | [] =>False
   |i::ir=>match bx i with
    |some cs=>oJ ar is0 ok b cs N λvs ms=>ih ir (N+1000000) λns=>K (appR ms (.b i vs::ns))
    |none=>False) bs
def dB5(is ok:List Nat):V:=match is with| [] =>(match ok with|k::_=> .arr k 0| [] => .bot)|_::_=> .bot
def aX2(bx:Nat->Option (List V))(ar:Nat->Option AE)(is ok:List Nat)(d:Nat)(r:V)(bs:List (List V))(K:VK):Prop:=
 match r with
 | .tup rs=>oJ ar is ok rs (mapR (λ_=> .bot) rs) d λvs ms=>aB3 bx ar is ok bs is (d+1000000) λns=>K (.tup vs) (appR ms ns)
 |r=>oJ ar is ok [r] [dB5 is ok] d λvs ms=>match vs with
  |v::_=>aB3 bx ar is ok bs is (d+1000000) λns=>K v (appR ms ns)
  | [] =>False
def isS{α:Type}(o:Option α):Bool:=match o with|some _=>true|none=>false
def zA(bx:Nat->Option (List V))(gs:List (List V×List V))(is:List Nat)(bs:List (List V))(r:V):Bool:=
 aE7 (ownG gs)&&allR (λk=> !memR k (mF gs)) (ownG gs)&&aE7 is&&Nat.beq (lenR is) (lenR bs)&&allR (λi=>isS (bx i)) is&&allR (λb=>Nat.blt (lenR b) 1000) bs&&Nat.ble (lenR is) 8&&
  (match r with| .tup rs=>Nat.blt (lenR rs) 1000|_=>true)
inductive Md where
 |free
 |drawn (hv:List (Nat×List Nat))
def Md.light:Md->Bool
 | .free=>false
 | .drawn _=>true
def hvOf(hv:List (Nat×List Nat))(d:Nat):Option (List Nat):=List.rec (motive:=λ_=>Option (List Nat)) none (λp _ ih=>cond (Nat.beq d p.1) (some p.2) ih) hv
def Md.may(m:Md)(d:Nat)(is:List Nat)(gs:List (List V×List V)):Bool:=
 match m with
 | .free=>true
 | .drawn hv=>match hvOf hv d with
   |some bl=>memR 88888 bl||allR (λi=>memR i bl) is
   |none=>false
structure kY(T:Tab)(P:Program)(light:Md)(σ:St)(d:Nat)(f:FuncId)(xs:List V)(K:VK):Prop where
 out:(∃(ys:List V) (r:V) (lend:Bool),iQ T σ.ar ys xs/\sO light.light lend xs ys r=true/\Spec T P f ys r/\
  zZ σ d (reuse σ (bD ys xs)) r λv ms=>K v (appR (cond lend [] (aV σ (bK ys xs))) (appR (aX σ (bD ys xs)) ms)))\/
  (light= .free/\∃(ys:List V) (r:V) (j k g:Nat) (e:TypeId) (l l':List V),iQ T σ.ar ys xs/\sO false false xs ys r=true/\bE5 T P f ys r j e l'/\
   ys[j]? =some (.own e l)/\xs[j]? =some (.arr k g)/\aH7 r=true/\
   K r (appR (aV σ (bK ys xs)) (appR (aX σ (bD ys xs)) [.a k ⟨g, .own,e,l'⟩])))\/
  (∃(ys:List V) (is:List Nat) (bs:List (List V)) (r:V) (bs':List (List V)),light.may d is ((xs,ys)::eU σ.bx bs is)=true/\xM T σ.ar is ((xs,ys)::eU σ.bx bs is)/\zA σ.bx ((xs,ys)::eU σ.bx bs is) is bs r=true/\aU2 T P f ys bs r bs'/\
   aX2 σ.bx σ.ar is (ownG ((xs,ys)::eU σ.bx bs is)) d r bs' λv ms=>K v (appR (aV σ (mF ((xs,ys)::eU σ.bx bs is))) (appR (aX σ (ownG ((xs,ys)::eU σ.bx bs is))) ms)))\/
  (light= .free/\∃(ys:List V) (cells:List V),iQ T σ.ar ys xs/\sO false false xs ys .bot=true/\SpecN T P f ys cells/\σ.bx d=none/\
   K (.box d 0) (appR (aV σ (bK ys xs)) (appR (aX σ (bD ys xs)) [.b d cells])))
def nilB(bop:BinOp)(b:Bool):Bool:=match bop with| .eql=>b|_=> !b
structure bV3(T:Tab)(bop:BinOp)(t:TypeId)(c:Value)(l:List V)(K:VK):Prop where
 c0:c= .slice none 0 0
 ty:t<T.n t
 kd:(T.row t).kd= .slice
 op:bop= .eql\/bop= .neq
 out:∀b:Bool,(l≠ []->b=false)->K (B (nilB bop b)) []
def bW(T:Tab)(P:Program)(light:Md)(σ:St)(d:Nat)(op:Op)(K:VK):Prop:=
 match op with
 | .call ⟨.value (.func f),⟨as⟩,_⟩=>bJ (mapR σ.ev as) λxs=>kY T P light σ d f xs K
 | .call ⟨.value (.tmp t),⟨as⟩,_⟩=>match σ.env t with
   | .fn g caps=>cond (isFnC caps) (bJ (mapR σ.ev as) λxs=>kY T P light σ d g (argsV caps xs) K) False
   |_=>False
 | .slice t (.tmp x) lo hi mx=>match light,σ.env x with
   | .free, .arr k _=>match σ.ar k with
     |some ⟨gen, .own,ty,l⟩=>opVC T (σ.apps [.a k ⟨gen, .frz,ty,l⟩]) d (.slice t (.tmp x) lo hi mx) λv ms=>K v (.a k ⟨gen, .frz,ty,l⟩::ms)
     |some ⟨gen, .ap,ty,l⟩=>opVC T (σ.apps [.a k ⟨gen, .frz,ty,l⟩]) d (.slice t (.tmp x) lo hi mx) λv ms=>K v (.a k ⟨gen, .frz,ty,l⟩::ms)
     |_=>opVC T σ d (.slice t (.tmp x) lo hi mx) K
   |_,_=>opVC T σ d (.slice t (.tmp x) lo hi mx) K
 | .binOp bop t (.tmp x) (.const c) t'=>match light,σ.env x with
   | .free, .sl l=>bV3 T bop t c l K
   |_,_=>opVC T σ d (.binOp bop t (.tmp x) (.const c) t') K
 |op=>opVC T σ d op K
abbrev OpsK:=(Nat->V)->(Nat->Option (List V))->(Nat->Option AE)->(St->Prop)->Prop
def dZ7(ms:List Mod):(env:Nat->V)->(bx:Nat->Option (List V))->(ar:Nat->Option AE)->(K:(Nat->V)->(Nat->Option (List V))->(Nat->Option AE)->Prop)->Prop:=
 List.rec (motive:=λ_=>(env:Nat->V)->(bx:Nat->Option (List V))->(ar:Nat->Option AE)->(K:(Nat->V)->(Nat->Option (List V))->(Nat->Option AE)->Prop)->Prop)
  (λenv bx ar K=>K env bx ar)
  (λm _ ih env bx ar K=>match m with
   | .b i cs=>ih env (upd bx i (some cs)) ar K
   | .a k en=>ih env bx (upd ar k (some en)) K) ms
def tV(ops:List Oper)(j:Nat):Option Nat:=(nth ops j).bind (·.dst)
def aV2(T:Tab)(P:Program)(light:Md)(n:Nat)(dst:Option Nat)(op:Op)(ih:OpsK):OpsK:=λenv bx ar K=>
 match dst with
 |some d=>cond (Nat.blt d n) (bW T P light ⟨env,bx,ar⟩ d op λv ms=>dZ7 ms env bx ar λenv bx ar=>ih (upd env d v) bx ar K) False
 |none=>bW T P light ⟨env,bx,ar⟩ n op λ_ ms=>dZ7 ms env bx ar λenv bx ar=>ih env bx ar K
def zX(rf:Bool)(ar:Nat->Option AE)(xs:List Operand):(Nat->V)->(Nat->Option (List V))->((Nat->V)->(Nat->Option (List V))->List V->Prop)->Prop:=
 List.rec (motive:=λ_=>(Nat->V)->(Nat->Option (List V))->((Nat->V)->(Nat->Option (List V))->List V->Prop)->Prop) (λenv bx K=>K env bx [])
  (λc _ ih env bx K=>match St.ev ⟨env,bx,ar⟩ c with
   | .box i off=>match off,bx i with
     |0,some cells=>match rf with
      |true=>ih env bx λenv bx caps=>K env bx (.box i 0::caps)
      |false=>bJ cells λcells=>cond (allR V.atom cells&&Nat.blt i 100000) (ih (λs=>(env s).frz i cells) (frzB i cells bx) λenv bx caps=>K env bx (.fp cells::caps)) False
     |_,_=>False
   | .fp cs=>ih env bx λenv bx caps=>K env bx (.fp cs::caps)
   |_=>False) xs
structure cR5(T:Tab)(σ:St)(K:St->Prop):Prop where
 out:∃σ',Le T σ σ'/\K σ'
def dB2(T:Tab)(P:Program)(light:Md)(n:Nat)(dst:Option Nat)(op:Op)(ih:OpsK):OpsK:=λenv bx ar K=>
 match op with
 | .makeFunc (.func g) ⟨[]⟩ ⟨c::cs⟩=>match light,dst with
   | .free,some d=>cond (Nat.blt d n) (zX (T.ref g) ar (c::cs) env bx λenv bx caps=>ih (upd env d (.fn g caps)) bx ar K) False
   |_,_=>False
 | .buildSlice t m ps=>match light with
   | .free=>cond (allR (λp=>allR V.atom (St.ev ⟨env,bx,ar⟩ p.2).cells) ps.toList) (aV2 T P light n dst (.buildSlice t m ps) ih env bx ar K)
     (cR5 T ⟨env,bx,ar⟩ λσ'=>aV2 T P light n dst (.buildSlice t m ps) ih σ'.env σ'.bx σ'.ar K)
   |_=>aV2 T P light n dst (.buildSlice t m ps) ih env bx ar K
 |op=>aV2 T P light n dst op ih env bx ar K
def bF6(n:Nat)(dst:Option Nat)(ih:OpsK):OpsK:=λenv bx ar K=>
 match dst with
 |some d=>cond (Nat.blt d n) (ih (upd env d (.tup [])) bx ar K) False
 |none=>ih env bx ar K
def bH0(T:Tab)(P:Program)(light:Md)(n:Nat)(ops:List Oper)(o:Oper)(ih:OpsK):OpsK:=λenv bx ar K=>
 match o with
 |⟨dst,op,_,_,_,guard⟩=>
  match guard with
  |none=>dB2 T P light n dst op ih env bx ar K
  |some (j,want)=>
   match tV ops j with
   |some s=>match env s with
    | .lit (.bool b)=>
      branch b
       (cond want (aV2 T P light n dst op ih (upd env s (B true)) bx ar K) (bF6 n dst ih (upd env s (B true)) bx ar K))
       (cond want (bF6 n dst ih (upd env s (B false)) bx ar K) (aV2 T P light n dst op ih (upd env s (B false)) bx ar K))
    | .tup _=>bF6 n dst ih env bx ar K
    |_=>False
   |none=>False
def aY0(T:Tab)(P:Program)(light:Md)(n:Nat)(ops l:List Oper):OpsK:=
 List.rec (motive:=λ_=>OpsK) (λenv bx ar K=>K ⟨env,bx,ar⟩) (λo _ ih=>bH0 T P light n ops o ih) l
def cls:Op->Nat
 | .move _=>0
 | .nilCheck _=>0
 | .assign _=>0
 | .pick _ _ _=>0
 | .unOp _ _ _=>0
 | .binOp _ _ _ _ _=>0
 | .fieldAddr _ _ _=>0
 | .field _ _ _=>0
 | .extract _ _=>0
 | .makeFunc (.func _) ⟨[]⟩ ⟨[]⟩=>0
 | .build _ _=>0
 | .convert _ _ _=>2
 | .index _ _ _=>0
 | .call ⟨.builtin .max,_,_⟩=>0
 | .call ⟨.builtin .min,_,_⟩=>0
 | .box _ _=>1
 | .alloc _=>1
 | .buildSlice _ _ _=>1
 | .makeSlice _ _ _=>1
 | .load _ _=>2
 | .indexAddr _ _ _=>2
 | .lookup _ _ _ false=>2
 | .slice _ _ _ _ _=>2
 | .call ⟨.builtin .len,_,_⟩=>2
 | .call ⟨.value (.func _),_,_⟩=>3
 | .call ⟨.value (.tmp _),_,_⟩=>3
 | .store _ _ _=>4
 | .call ⟨.builtin .append,_,_⟩=>4
 |_=>5
def clash(a b:Nat):Bool:=(Nat.ble 4 a&&Nat.ble 2 b)||(Nat.ble 4 b&&Nat.ble 2 a)||Nat.ble 5 a||Nat.ble 5 b
def bW4(ms:List Nat)(o:Oper):Nat:=o.after.foldl (λm e=>if Region.binds .any e then m|||2^e.on|||ms.getD e.on 0 else m) 0
def masks(ops:List Oper):List Nat:=ops.foldl (λms o=>ms++[bW4 ms o]) []
def claim(cl:List (Nat×Nat))(u:Nat):Option Nat:=(cl.find? λq=>Nat.beq q.1 u).map (·.2)
def zO(cl:List (Nat×Nat))(x:Operand)(i:Nat):Bool:=
 match x with
 | .tmp u=>match claim cl u with|some j=>Nat.beq i j|none=>false
 | .const _=>true
 |_=>false
def aL7(T:Tab)(cl:List (Nat×Nat))(o:Oper):Bool:=
 match o.dst with
 |none=>true
 |some d=>match claim cl d with
  |none=>true
  |some i=>match o.op with
   | .fieldAddr _ x _=>zO cl x i
   | .indexAddr t x _=>zO cl x i||(Nat.beq i 77777&&dG6 (T.row t).kd)
   | .move x=>zO cl x i
   | .nilCheck x=>zO cl x i
   | .alloc _=>Nat.beq d i
   | .box _ _=>Nat.beq d i
   | .binOp .rem _ _ _ _=>true
   |_=>false
def sepO(cl:List (Nat×Nat))(i:Nat)(o:Op):Bool:=
 match o with
 | .store _ (.tmp u') _=>match claim cl u' with|some j=> !Nat.beq i j|none=>false
 | .call ⟨.builtin .append,_,_⟩=>true
 |_=>false
def isApp(o:Op):Bool:=match o with| .call ⟨.builtin .append,_,_⟩=>true|_=>false
def aM7(cl:List (Nat×Nat))(p o:Op):Bool:=
 match p with
 | .load _ (.tmp u)=>match claim cl u with
   |some i=> !Nat.beq i 77777&&sepO cl i o
   |none=>false
 | .indexAddr _ (.tmp u) x=>match claim cl u with
   |some i=> !Nat.beq i 77777&& (zO cl x i&&sepO cl i o)
   |none=>false
 | .slice _ _ _ _ _=>isApp o
 | .call ⟨.builtin .len,⟨[.tmp u]⟩,_⟩=>match claim cl u with
   |some i=> !Nat.beq i 77777&&sepO cl i o
   |none=>false
 |_=>false
def aG7(o:Op):Bool:=match o with| .call ⟨.value _,_,_⟩=>true|_=>false
def hvO(hv:List (Nat×List Nat))(o:Oper):Bool:=aG7 o.op&& (match o.dst with|some d=>isS (hvOf hv d)|none=> !hv.isEmpty)
def clsH(hv:List (Nat×List Nat))(o:Oper):Nat:=cond (hvO hv o) 5 (cls o.op)
def aI5(cl:List (Nat×Nat))(bl:List Nat)(o:Op):Bool:=
 match o with
 | .load _ (.tmp u)=>match claim cl u with|some i=> !Nat.beq i 77777&& !bl.contains i|none=>false
 | .indexAddr _ (.tmp u) (.const _)=>match claim cl u with|some i=> !Nat.beq i 77777&& !bl.contains i|none=>false
 | .fieldAddr _ _ _=>true
 | .move _=>true
 | .nilCheck _=>true
 |_=>false
def aI7(o:Op):Bool:=
 match o with
 | .fieldAddr _ _ _=>true
 | .move _=>true
 | .build _ _=>true
 | .nilCheck _=>true
 |_=>false
def blOf(hv:List (Nat×List Nat))(o:Oper):Option (List Nat):=
 match aG7 o.op,o.dst with
 |true,some d=>match hvOf hv d with
  |some bl=>cond (memR 88888 bl) none (some bl)
  |none=>none
 |_,_=>none
def isLen(o:Op):Bool:=match o with| .call ⟨.builtin .len,⟨[_]⟩,⟨[_]⟩⟩=>true|_=>false
def isNew(o:Oper):Bool:=match o.op,o.guard with| .alloc _,none=>true|_,_=>false
def dJ2(cl:List (Nat×Nat))(hv:List (Nat×List Nat))(p o:Oper):Bool:=
 ((match blOf hv o with|some bl=>aI5 cl bl p.op|none=>false)||(match blOf hv p with|some bl=>aI5 cl bl o.op|none=>false))||(aI7 p.op||aI7 o.op)||((isLen o.op||isNew o)&&isS (blOf hv p))
def fL7(_:List (Nat×Nat))(p o:Op):Bool:=
 isApp p&& (match o with| .slice _ _ _ _ _=>true| .load _ _=>true| .indexAddr _ _ _=>true| .call ⟨.builtin .len,⟨[_]⟩,⟨[_]⟩⟩=>true|_=>false)
def fY1(p o:Op):Bool:=
 match p,o with
 | .indexAddr _ _ _, .store _ _ _=>true
 | .store _ _ _, .indexAddr _ _ _=>true
 |_,_=>false
def oO(T:Tab)(cl:List (Nat×Nat))(hv:List (Nat×List Nat))(ops:List Oper):Bool:=
 let ms:=masks ops
 ops.all (aL7 T cl)&&ops.zipIdx.all λ(o,k)=>o.after.all (λe=> !Region.binds .any e||decide (e.on<k))&& !(o.op matches .select _ _)&&
  (ops.take k).zipIdx.all λ(p,i)=>(ms.getD k 0).testBit i||(Oper.apart ops.toArray p o&&Oper.apart ops.toArray o p&& (!clash (clsH hv p) (clsH hv o)||((aM7 cl p.op o.op||fL7 cl p.op o.op||fY1 p.op o.op)&& !hvO hv p&& !hvO hv o)||dJ2 cl hv p o))
def cP6(T:Tab)(ops:List Oper):Bool:=oO T [] [] ops
def okB(i:Nat)(v:V):Prop:=
 match v with
 | .box j _=>j=i
 | .bot=>True
 | .tup [] =>True
 | .lit _=>True
 | .sl _=>True
 | .cap _=>True
 | .fp _=>True
 | .arr _ _=>i=77777
 | .ae _ _ _ _ _=>i=77777
 |_=>False
def cO4(cl:List (Nat×Nat))(env:Nat->V):Prop:=List.rec (motive:=λ_=>Prop) True (λq _ ih=>okB q.2 (env q.1)/\ih) cl
abbrev aA2:=St->(Exit->St->Prop)->Prop
def ofL{α:Type}(d:α)(l:List (Nat×α)):Nat->α:=
 List.rec (motive:=λ_=>Nat->α) (λ_=>d) (λp _ ih s=>cond (Nat.beq s p.1) p.2 (ih s)) l
def ofO{α:Type}(l:List (Nat×α)):Nat->Option α:=
 List.rec (motive:=λ_=>Nat->Option α) (λ_=>none) (λp _ ih s=>cond (Nat.beq s p.1) (some p.2) (ih s)) l
def mkSt(e:List (Nat×V))(b:List (Nat×List V))(r:List (Nat×AE)):St:=⟨ofL .bot e,ofO b,ofO r⟩
structure Ann where
 A:Type
 st:A->St
 inv:A->Prop
 m:A->Nat
structure dG2(T:Tab)(x y:aA2)(σ:St)(Q:Exit->St->Prop):Prop where
 out:(x σ λe σ'=>match e with
  | .normal=>y σ' Q
  |e=>Q e σ')\/
 ∃C:Ann,(x σ λe σ'=>match e with
  | .normal=>∃p,Le T σ' (C.st p)/\C.inv p
  |e=>Q e σ')/\∀p,C.inv p->y (C.st p) Q
structure bI0(T:Tab)(x:aA2)(σ:St)(Q:Exit->St->Prop):Prop where
 out:∃L:Ann,(∃p,Le T σ (L.st p)/\L.inv p)/\∀p,L.inv p->x (L.st p) λe σ'=>match e with
  | .normal=>∃p',Le T σ' (L.st p')/\L.inv p'/\L.m p'<L.m p
  |e=>Q e σ'
structure aC9(T:Tab)(env:Nat->V)(ops:List Oper)(K:List (Nat×List Nat)->Prop)(A:Prop):Prop where
 out:(∃cl hv,cO4 cl env/\oO T cl hv ops=true/\K hv)\/A
def readyR(L:List Nat)(ops:List Oper):Nat->List Nat:=
 List.rec (motive:=λ_=>Nat->List Nat) (λ_=> []) (λo _ ih i=>cond (memR i L) (ih (Nat.succ i)) (cond (allR (λe=>cond (Region.binds .any e) (memR e.on L) true) o.after.toList) (i::ih (Nat.succ i)) (ih (Nat.succ i)))) ops
structure bothVC(A B:Prop):Prop where
 out:A/\B
def andR(f:Nat->Prop)(l:List Nat):Prop:=List.rec (motive:=λ_=>Prop) True (λi r ih=>match r with| [] =>f i|_::_=>bothVC (f i) ih) l
def treeVC(T:Tab)(P:Program)(n:Nat)(ops:List Oper)(f:Nat):List Nat->OpsK:=
 Nat.rec (motive:=λ_=>List Nat->OpsK)
  (λL env bx ar K=>match readyR L ops 0 with| [] =>K ⟨env,bx,ar⟩|_::_=>False)
  (λ_ ih L env bx ar K=>match readyR L ops 0 with
   | [] =>K ⟨env,bx,ar⟩
   |i::r=>andR (λi=>match nth ops i with|some o=>bH0 T P .free n ops o (ih (i::L)) env bx ar K|none=>False) (i::r)) f
def dG4(l:List Oper):List Nat:=List.rec (motive:=λ_=>List Nat) [] (λo _ ih=>match o.dst with|some d=>d::ih|none=>ih) l
def dstsOf(c:Code):List Nat:=
 Code.rec (motive:=λ_=>List Nat) [] (λ_ ops _=>dG4 ops.toList) (λ_ _ a b=>appR a b) (λ_ _ _ a b=>appR a b) (λ_ _ a=>a) (λ_ a=>a)
  (λ_ ps _ _ a b=>appR ps.toList (appR a b)) (λ_=> []) (λ_ a=>a) (λ_=> []) (λ_=> []) [] (λ_=> []) c
def iC(c:Code):Bool:=
 Code.rec (motive:=λ_=>Bool) true (λ_ _ _=>true) (λ_ _ a b=>cond a b false) (λ_ _ _ a b=>cond a b false) (λ_ _ a=>a) (λ_ a=>a)
  (λ_ _ _ _ _ _=>false) (λ_=>true) (λ_ a=>a) (λ_=>true) (λ_=>false) true (λ_=>false) c
def sJ(wr:List Nat)(σ:St):St:=⟨λs=>cond (memR s wr) .bot (σ.env s),σ.bx,σ.ar⟩
def cM2(ps:List Nat):List V->(Nat->V)->Nat->V:=
 List.rec (motive:=λ_=>List V->(Nat->V)->Nat->V) (λ_ env=>env) (λp _ ih vs env=>match vs with|v::r=>ih r (upd env p v)| [] =>env) ps
structure aO0(T:Tab)(P:Program)(f:Operand)(g:FuncId)(caps:List V)(ps wr:List Nat)(x y:aA2)(σ:St)(Q:Exit->St->Prop):Prop where
 out:∃items:List (List V),aB0 T P g caps items/\(∀it∈items,it.length=ps.length)/\∃(A:Type) (st:A->St) (inv:Nat->A->Prop),
  (∃p,Le T σ (st p)/\inv 0 p/\(st p).ev f= .fn g caps)/\
  (∀k p it,inv k p->items[k]? =some it->x ⟨cM2 ps it (st p).env,(st p).bx,(st p).ar⟩ λe σ1=>match e with
   | .normal=>y σ1 λe σ2=>match e with
     | .normal=>∃p',Le T (sJ wr σ2) (st p')/\inv (k+1) p'
     | .ret=>Q .ret (sJ wr σ2)
     | .exit i=>Q (.exit i) (sJ wr σ2)
     |_=>False
   |_=>False)/\
  ∀p,inv items.length p->Q .normal (st p)
def nH(T:Tab)(P:Program)(n:Nat)(c:Code):aA2:=
 Code.rec (motive:=λ_=>aA2)
  (λσ Q=>Q .normal σ)
  (λ_ ops draw σ Q=>match σ with|⟨env,bx,ar⟩=>match draw with
   |true=>aC9 T env ops.toList (λhv=>aY0 T P (.drawn hv) n ops.toList ops.toList env bx ar (Q .normal)) (treeVC T P n ops.toList ops.toList.length [] env bx ar (Q .normal))
   |false=>aY0 T P .free n ops.toList ops.toList env bx ar (Q .normal))
  (λ_ _ iha ihb=>dG2 T iha ihb)
  (λc _ _ iht ihe σ Q=>match σ.ev c with
   | .lit (.bool b)=>branch b (iht σ Q) (ihe σ Q)
   |_=>False)
  (λid _ ih σ Q=>ih σ λe σ'=>match e with
   | .exit i=>cond (Nat.beq i id) (Q .normal σ') (Q (.exit i) σ')
   |e=>Q e σ')
  (λ_ ih=>bI0 T ih)
  (λf ps x y ihx ihy σ Q=>match σ.ev f with
   | .fn g caps=>cond (allR V.still caps) (cond (iC x) (cond (iC y) (cond (allR (λp=>Nat.blt p n) ps.toList) (aO0 T P f g caps ps.toList (appR ps.toList (appR (dstsOf x) (dstsOf y))) ihx ihy σ Q) False) False) False) False
   |_=>False)
  (λid σ Q=>Q (.exit id) σ)
  (λ_ ih σ Q=>ih σ λe σ'=>match e with
   | .goto _=>False
   |e=>Q e σ')
  (λ_ σ Q=>Q .normal σ)
  (λ_ _ _=>False)
  (λσ Q=>Q .ret σ)
  (λ_ _ _=>False) c
def pF(ys:List V):Nat->Nat->V:=
 List.rec (motive:=λ_=>Nat->Nat->V) (λ_ _=> .tup []) (λy _ ih j s=>cond (Nat.beq s j) (cond (linear y) (.arr j 0) y) (ih (j+1) s)) ys
def jK(ys:List V):Nat->Nat->Option AE:=
 List.rec (motive:=λ_=>Nat->Nat->Option AE) (λ_ _=>none) (λy _ ih j s=>cond (Nat.beq s j) (match y with
  | .own e l=>some ⟨0, .own,e,l⟩
  | .ap e l=>some ⟨0, .ap,e,l⟩
  |_=>none) (ih (j+1) s)) ys
def uD(ys:List V):St:=⟨pF ys 0,λ_=>none,jK ys 0⟩
def aH3(T:Tab)(σ:St)(rs:List ResultVar):(List V->Prop)->Prop:=
 List.rec (motive:=λ_=>(List V->Prop)->Prop) (λK=>K [])
  (λx _ ih K=>match x with
   | .tmp t=>force (σ.env t) λv=>ih λvs=>K (v::vs)
   | .cell a t=>cond (Nat.blt t (T.n t)) (pW (T.row t) σ (σ.env a) λv _=>ih λvs=>K (v::vs)) False) rs
structure dF3(T:Tab)(σ:St)(rs:List ResultVar)(r:V):Prop where
 out:(aH3 T σ rs λxs=>match xs with
  | [x] =>iQ T σ.ar [r] [x]/\iR [x] [r] =true/\(∀rs,r≠ .tup rs)
  |xs=>∃ys,r= .tup ys/\iQ T σ.ar ys xs/\iR xs ys=true)\/
  aH3 T σ rs λxs=>match xs with
  | [x] =>∃ys cs,r= .tup (.bot::ys)/\x= .agg cs/\iQ T σ.ar ys cs/\iR cs ys=true
  |_=>False
structure dC6(T:Tab)(σ:St)(rs:List ResultVar)(r:V)(j:Nat)(e:TypeId)(l:List V):Prop where
 out:aH3 T σ rs λxs=>match xs with
  | [x] =>iQ T σ.ar [r, .own e l] [x, .arr j 0]/\iR [x, .arr j 0] [r, .own e l] =true/\aH7 r=true/\(∀rs,r≠ .tup rs)
  |xs=>∃ys,r= .tup ys/\iQ T σ.ar (appR ys [.own e l]) (appR xs [.arr j 0])/\iR (appR xs [.arr j 0]) (appR ys [.own e l])=true
def fnIO(T:Tab)(P:Program)(fn:Func)(ys:List V)(r:V)(j:Nat)(e:TypeId)(l:List V):Prop:=
 match fn.body with
 |some c=>nH T P fn.ntmps c (uD ys) λex σ=>match ex with
  | .normal=>dC6 T σ fn.results.toList r j e l
  | .ret=>dC6 T σ fn.results.toList r j e l
  |_=>False
 |none=>False
def fnVC(T:Tab)(P:Program)(fn:Func)(ys:List V)(r:V):Prop:=
 match fn.body with
 |some c=>nH T P fn.ntmps c (uD ys) λe σ=>match e with
  | .normal=>dF3 T σ fn.results.toList r
  | .ret=>dF3 T σ fn.results.toList r
  |_=>False
 |none=>False
def kdOf:Option TypeDesc->Kd
 |some .bool=> .bool
 |some (.int k)=> .int k
 |some .string=> .str
 |some (.slice _)=> .slice
 |some (.struct _)=> .struct
 |some (.array _ _)=> .array
 |some (.map _ _)=> .map
 |some (.pointer _)=> .ptr
 |_=> .other
def zeroOf(P:Program)(t:TypeId):Option Value:=(P.info? t).bind (·.zero)
def vI(P:Program)(t:TypeId):Nat:=((P.info? t).map (·.size)).getD 0
def aggB:Option TypeDesc->Bool
 |some (.struct _)=>true
 |some (.array _ _)=>true
 |_=>false
def mkRow(P:Program)(t:TypeId):Row:=
 {size:=vI P t
  bytes:=((P.info? t).map (·.bytes)).getD 0
  agg:=aggB (P.underlying t)
  kd:=kdOf (P.underlying t)
  elem:=match P.underlying t with|some (.slice e)=>e|some (.array _ e)=>e|some (.map _ e)=>e|_=>0
  alen:=match P.underlying t with|some (.array n _)=>n|some (.map k _)=>k|_=>0
  flds:=match P.underlying t with|some (.struct fs)=>fs.toList.map (λf=>(f.offset,vI P f.type,kdOf (P.underlying f.type),f.type))|_=> []
  zero:=((zeroOf P t).map (·.cells.toList)).getD []
  eq:= !(P.stoodInHeld t)&& !(P.eqGuardType P.depth t)&& (match P.underlying t with|some (.struct fs)=>fs.toList.all (λf=>f.name != "_")|some (.array _ _)=>true|_=>false)}
def cU3:Value->Bool
 | .agg _=>true
 |_=>false
def rowB(P:Program)(t:TypeId):Bool:=
 (P.info? t).isSome&& (P.underlying t).isSome&& (match zeroOf P t with
   |some z=>z.cells.toList.all Value.oneCell'&&z.cells.size==vI P t&&cU3 z==aggB (P.underlying t)
   |none=>false)&&
 (match P.underlying t with|some (.struct fs)=>fs.toList.all (λf=>(P.info? f.type).isSome)|_=>true)
structure aH9(P:Program)(t:TypeId)(r:Row):Prop where
 eqs:r.eq=true->P.stoodInHeld t=false/\P.eqGuardType P.depth t=false/\∀fs,P.underlying t=some (.struct fs)->∀f∈fs,f.name≠ "_"
 info:∃i,P.info? t=some i/\i.size=r.size/\i.bytes=r.bytes/\∃z,i.zero=some z/\z.cells.toList=r.zero/\(∀c∈r.zero,c.oneCell'=true)/\r.zero.length=r.size/\(r.agg=true->∃cs,z= .agg cs)/\(r.agg=false->r.zero=[z])
 und:∃d,P.underlying t=some d/\r.kd=kdOf (some d)/\r.agg=aggB (some d)/\(∀e,d= .slice e->r.elem=e)/\(∀n e,d= .array n e->r.elem=e/\r.alen=n)/\(∀k e,d= .map k e->r.elem=e/\r.alen=k)/\
  (∀fs,d= .struct fs->r.flds=fs.toList.map (λf=>(f.offset,vI P f.type,kdOf (P.underlying f.type),f.type))/\∀f∈fs,∃i,P.info? f.type=some i/\i.size=vI P f.type)
def eJ9{P:Program}{t:TypeId}(h:rowB P t=true):aH9 P t (mkRow P t):=by
 simp only[rowB,Px]at h;obtain⟨⟨⟨g,j⟩,b⟩,n⟩:=h;obtain⟨i,hi⟩:=Option.isSome_iff_exists.1 g;obtain⟨d,o⟩:=Option.isSome_iff_exists.1 j;cases a:zeroOf P t with
 |none=>rw[a]at b;simp at b
 |some z=>
  rw[a]at b;simp only[Px,QR,beq_iff_eq]at b;obtain⟨⟨l,m⟩,f⟩:=b;have e:i.zero=some z:=by simpa [zeroOf,hi]using a
  constructor;intro k;simp only[mkRow,Px,RI]at k;grind;refine⟨i,hi,by simp[mkRow,vI,hi],by simp[mkRow,hi],z,e,by simp[mkRow,a],?_,?_,?_,?_⟩;simpa [mkRow,a]using l;simpa [mkRow,a]using m;intro c;simp only[mkRow]at c;rw[c]at f;cases z<;>simp[cU3]at f;exact⟨_,rfl⟩
  intro c;simp only[mkRow]at c;rw[c]at f;simp only[mkRow,a,Qg,QT];cases z<;>simp_all [cU3,Value.cells]
  grind [QR,Option.isSome_iff_exists,mkRow,vI]
def bP(T:Tab)(P:Program):Prop:=∀t,t<T.n t->aH9 P t (T.row t)
def memT(k:Nat)(l:List Nat):Bool:=List.rec (motive:=λ_=>Bool) false (λx _ ih=>cond (Nat.beq k x) true ih) l
def tabOf(P:Program)(n:Nat)(bad:List Nat):Tab:=⟨λt=>cond (memT t bad) 0 n,mkRow P,λ_ _=>True,λ_ h=>h,λ_=>false⟩
def eD6(P:Program)(n:Nat)(bad:List Nat)(lay:World->(Nat->Prop)->Prop)(hm:∀ {w w':World} {F F':Nat->Prop},(∀b,F b->F' b/\w'.heap[b]? =w.heap[b]?)->lay w F->lay w' F')(rf:List Nat):Tab:=⟨λt=>cond (memT t bad) 0 n,mkRow P,lay,hm,λg=>memT g rf⟩
theorem uN{b:Type}(l:List b):∀n,nth l n=l[n]? :=by
 induction l with
 |nil=>intro n;rfl
 |cons x r a=>
  intro n;cases n with
  |zero=>rfl
  |succ n=>exact(a n).trans Af
def eJ2{P:Program}{n:Nat}{a:List Nat}(h:(List.range n).all (λt=>memT t a||rowB P t)=true):bP (tabOf P n a) P:=by
 intro t d;have b:t<cond (memT t a) 0 n:=d;cases c:memT t a with
 |true=>rw[c]at b;exact absurd b (Nat.not_lt_zero t)
 |false=>
  rw[c]at b;have:=QR.1 h t (Qh.2 b);rw[c,Bool.false_or]at this;exact eJ9 this
def dM2{P:Program}{n:Nat}{a:List Nat}{lay:World->(Nat->Prop)->Prop}{d:∀ {w w':World} {F c:Nat->Prop},(∀b,F b->c b/\w'.heap[b]? =w.heap[b]?)->lay w F->lay w' c}{e:List Nat}(h:(List.range n).all (λt=>memT t a||rowB P t)=true):bP (eD6 P n a lay d e) P:=eJ2 h
section lists
variable{α β:Type}
theorem aD3(l:List α):∀n,rO l n=l.take n:=by
 induction l with
 |nil=>intro n;simp[rO]
 |cons x r a=>
  intro n;cases n with
  |zero=>rfl
  |succ n=>exact PN (x::·) (a n)
theorem lQ(l:List α):∀n,jX l n=l.drop n:=by
 induction l with
 |nil=>intro n;simp[jX]
 |cons x r a=>
  intro n;cases n with
  |zero=>rfl
  |succ n=>exact a n
theorem bT(l m:List α):appR l m=l++m:=by
 induction l with
 |nil=>rfl
 |cons x r a=>exact PN (x::·) a
theorem iL(l:List α):lenR l=l.length:=by
 induction l with
 |nil=>rfl
 |cons x r a=>exact PN Nat.succ a
theorem dU(f:α->β)(l:List α):mapR f l=l.map f:=by
 induction l with
 |nil=>rfl
 |cons x r a=>exact PN (f x::·) a
theorem eL7(f:α->Bool)(l:List α):allR f l=l.all f:=by
 induction l with
 |nil=>rfl
 |cons x r a=>
  show cond (f x) (allR f r) false=_;rw[a];cases h:f x<;>simp[h]
theorem dY{f:α->Bool}{l:List α}:allR f l=true↔∀x∈l,f x=true:=by rw[eL7];exact QR
end lists
theorem mO(cs:List V)(off:Nat)(xs:List V):splice cs off xs=cs.take off++(xs++cs.drop (off+xs.length)):=by
 simp[splice,aD3,lQ,bT,iL]
theorem force_eq(v:V)(K:V->Prop):force v K=K v:=by cases v<;>rfl
theorem bC(l:List V):∀K:List V->Prop,bJ l K=K l:=by
 induction l with
 |nil=>intro K;rfl
 |cons x r a=>
  intro K;show force x (λx'=>bJ r λb=>K (x'::b))=_;rw[force_eq,a]
def aT{b:Bool}{p:Prop}(h:cond b p False):b=true/\p:=by cases b<;>simp_all
def blt{a b:Nat}(h:Nat.blt a b=true):a<b:=by simpa [Nat.blt_eq]using h
theorem dX{p K:Prop}(h:need p K):p/\K:=Ep
def wI{k:IntKind}{n:Int}{K:Int->Prop}(h:arith k n K):K (k.wrap n):=Ep
def cC4{xs:List V}{K:List Int->Prop}(h:aZ0 xs K):∃ns:List Int,xs=ns.map (λn=>V.lit (.int .u8 n))/\K ns:=Ep
def cO3{l:List V}{i:Nat}{K:V->Prop}(h:idx l i K):∃x,l[i]? =some x/\K x:=Ep
def bL0{x:V}{p:Nat->Prop}{q:Nat->Nat->Prop}(h:x.still=true)(a:x.ok p q):x.pure:=by
 cases x<;>simp_all [V.pure,V.ok,V.still]
def wC{l:List V}{p:Nat->Prop}{q:Nat->Nat->Prop}(h:allR V.still l=true)(a:V.okL p q l):bM l:=
 aH.2 λx b=>bL0 (dY.1 h x b) (aH.1 a x b)
def fn_atom_pure{g:FuncId}{l:List V}{p:Nat->Prop}{q:Nat->Nat->Prop}(h:(V.fn g l).atom=true)(a:(V.fn g l).ok p q):(V.fn g l).pure:=by
 have b:cond (isMapC l) true (allR V.still l)=true:=h;simp only[V.pure,V.ok]at a⊢;cases c:isMapC l with
 |false=>rw[c]at b;exact wC b a
 |true=>
  unfold isMapC at c;grind [V.okL,V.ok]
def cells_one{v:Value}(h:v.oneCell'=true):v.cells= #[v] :=by cases v<;>simp_all [Value.oneCell',Value.cells]
theorem add_block(a:Addr)(n:Nat):(a.add n).block=a.block:=EW
theorem add_add'(a:Addr)(i j:Nat):(a.add i).add j=a.add (i+j):=by
 unfold Addr.add;grind
theorem rY(b o n:Nat):(⟨b,o,none⟩:Addr).add n=⟨b,o+n,none⟩:=by unfold Addr.add;split<;>simp_all
theorem add_zero'(a:Addr):a.add 0=a:=by simp[Addr.add]
theorem Rv.cells{w:World}{G:Gh}{v:Value}{x:V}(h:Rv w G v x)(d:∀y∈x.cells,y.one=true):RvL w G v.cells.toList x.cells:=by
 have single:x.cells=[x]->v.oneCell'=true->RvL w G v.cells.toList x.cells:=by
  intro b hv;rw[b,cells_one hv];refine⟨rfl,AZ,λi u y f m=>?_⟩;grind
 cases h with
 |bot v=>simp[V.cells,V.one]at d
 |lit u f=>exact single rfl f
 |agg cs xs e l a=>exact⟨by simpa [Value.cells,V.cells]using e,by simpa [Value.cells]using l,λi c x j b=>a i c x (by simpa [Value.cells]using j) b⟩
 |tup cs xs e a=>simp[V.cells,V.one]at d
 |slN=>exact single rfl rfl
 |slS=>exact single rfl rfl
 |capN=>exact single rfl rfl
 |capS=>exact single rfl rfl
 |box i off=>exact single rfl rfl
 |arr k g a=>exact single rfl a
 |fp=>exact single rfl rfl
 |ae=>exact single rfl rfl
 |fn=>exact single rfl rfl
 |fb=>exact single rfl rfl
 |mp=>exact single rfl rfl
theorem Rv.bH{w:World}{G:Gh}{v u:Value}(h:Rv w G v (.lit u)):v=u:=by cases h;rfl
def Rv.aZ3{w:World}{G:Gh}{v u:Value}(h:Rv w G v (.lit u)):u.oneCell'=true:=by cases h;assumption
def Rv.zV{w:World}{G:Gh}{v:Value}{xs:List V}(h:Rv w G v (.agg xs)):∃cs:Array Value,v= .agg cs/\cs.size=xs.length/\(∀c∈cs,c.oneCell'=true)/\∀(i:Nat) c x,cs[i]? =some c->xs[i]? =some x->Rv w G c x:=by
 cases h<;>grind
def Rv.eP1{w:World}{G:Gh}{v:Value}{xs:List V}(h:Rv w G v (.tup xs)):∃cs:Array Value,v= .tuple cs/\cs.size=xs.length/\∀(i:Nat) c x,cs[i]? =some c->xs[i]? =some x->Rv w G c x:=by
 cases h<;>grind
theorem Rv.bI6{w:World}{G:Gh}{v:Value}{i off:Nat}(h:Rv w G v (.box i off)):v= .pointer (some ⟨G.β i,off,none⟩):=by cases h;rfl
theorem Rv.oQ{w:World}{G:Gh}{v:Value}{k g:Nat}(h:Rv w G v (.arr k g)):v=G.av k g:=by cases h;rfl
def Rv.cW5{w:World}{G:Gh}{v:Value}{cs:List V}(h:Rv w G v (.fp cs)):∃(a:Addr) (cc:Nat->Value),v= .pointer (some a)/\(cs≠ []->G.O a.block= .fz)/\At w a cc cs/\∀(j:Nat) y,cs[j]? =some y->Rv w G (cc j) y:=by
 cases h<;>grind
def Rv.cU8{w:World}{G:Gh}{v:Value}{g:FuncId}{a:List V}(h:Rv w G v (.fn g a))(j:isFnC a=true):(∃d:Array Value,v= .func (.func g) #[] d/\d.size=a.length/\∀(i:Nat) c x,d[i]? =some c->a[i]? =some x->Rv w G c x)\/
 ∃(b:Array Value) (cs:List V),v= .func (.func g) b #[]/\a= .own 0 [] ::cs/\b.size=cs.length/\∀(i:Nat) c x,b[i]? =some c->cs[i]? =some x->Rv w G c x:=by
 cases h with
 |fn g d a f e=>exact .inl ⟨d,rfl,f,e⟩
 |fb g b a f e=>exact .inr ⟨b,a,rfl,rfl,f,e⟩
 |mp=>cases j
def Rv.mp_inv{w:World}{G:Gh}{v d:Value}{g:FuncId}{es:List V}(h:Rv w G v (.fn g [.ap 0 [], .lit d, .sl es])):∃(b:Nat) (a:Array MapEntry) (c:Nat) (val:Value->Value),v= .map (some b)/\w.heap[b]? =some (.map a c)/\(∀s,MapKept.IsKey (litD d) s->jG s es=none->Instr.findNow (litD d) s a.toList 0=some none)/\
 (∀s x,MapKept.IsKey (litD d) s->jG s es=some x->(∃i,Instr.findNow (litD d) s a.toList 0=some (some (i,val s)))/\(val s).oneCell'=true)/\∀s x,MapKept.IsKey (litD d) s->jG s es=some x->Rv w G (val s) x:=by
 cases h with
 |fn g f j l e=>
  have k:0<f.size:=by rw[l];simp
  have:=e 0 f[0] (.ap 0 []) (by simp[k]) rfl;generalize f[0] =u at this;cases this
 |mp b a c g d es val p o q m n e=>exact⟨b,a,c,val,rfl,o,m,n,e⟩
def Rv.fn_cap{w:World}{G:Gh}{v:Value}{g:FuncId}{a:List V}(h:Rv w G v (.fn g a))(d:isFnC a=true)(f:∀cs,a≠ .own 0 [] ::cs):∃b:Array Value,v= .func (.func g) #[] b/\b.size=a.length/\∀(i:Nat) c x,b[i]? =some c->a[i]? =some x->Rv w G c x:=by
 rcases h.cU8 d with h|⟨_,cs,_,e,_⟩;exact h;exact absurd e (f cs)
def Rv.fn_args{w:World}{G:Gh}{v:Value}{g:FuncId}{a:List V}(h:Rv w G v (.fn g a))(q:isFnC a=true)(as:List Value)(xs:List V)(r:as.length=xs.length)(k:∀(i:Nat) v x,as[i]? =some v->xs[i]? =some x->Rv w G v x):
 ∃d b:Array Value,v= .func (.func g) d b/\(d.toList++as++b.toList).length=(argsV a xs).length/\∀(i:Nat) v x,(d.toList++as++b.toList)[i]? =some v->(argsV a xs)[i]? =some x->Rv w G v x:=by
 have m:∀(as bs:List Value) (xs ys:List V),as.length=xs.length->bs.length=ys.length->(∀(i:Nat) v x,as[i]? =some v->xs[i]? =some x->Rv w G v x)->(∀(i:Nat) v x,bs[i]? =some v->ys[i]? =some x->Rv w G v x)->
  (as++bs).length=(xs++ys).length/\∀(i:Nat) v x,(as++bs)[i]? =some v->(xs++ys)[i]? =some x->Rv w G v x:=by
  grind
 have f:(∃b:Array Value,v= .func (.func g) #[] b/\(∀e l cs,a≠ .own e l::cs)/\b.size=a.length/\∀(i:Nat) c x,b[i]? =some c->a[i]? =some x->Rv w G c x)\/
  ∃(d:Array Value) (cs:List V),v= .func (.func g) d #[]/\a= .own 0 [] ::cs/\d.size=cs.length/\∀(i:Nat) c x,d[i]? =some c->cs[i]? =some x->Rv w G c x:=by
  rcases h.cU8 q with⟨b,n,e2,j⟩|h
  ·refine .inl ⟨b,n,λe l cs t=>?_,e2,j⟩
   subst t;have s:0<b.size:=by rw[e2];simp
   have:=j 0 b[0] (.own e l) (by simp[s]) rfl;generalize b[0] =u at this;cases this
  ·exact .inr h
 rcases f with⟨b,n,y,e2,j⟩|⟨d,cs,n,rfl,e2,j⟩
 ·have o:argsV a xs=xs++a:=by
   simp_all [bT,argsV]
  rw[o];refine⟨#[],b,n,?_⟩;exact m as b.toList xs a r FB k (λi v x hv k=>j i v x AZ k)
 ·have o:argsV (.own 0 [] ::cs) xs=cs++xs:=by
   unfold argsV;exact bT _ _
  rw[o];refine⟨d, #[],n,?_⟩;simp only[Pz];exact m d.toList as cs xs FB r (λi v x hv k=>j i v x AZ k) k
def Rv.dA8{w:World}{G:Gh}{v:Value}{k g sz i off:Nat}(h:Rv w G v (.ae k g sz i off)):∃(a:Addr) (n c:Nat),v= .pointer (some (a.add (i*sz+off)))/\G.av k g= .slice (some a) n c:=by
 cases h<;>simp_all
def Rv.bK8{w:World}{G:Gh}{v:Value}{l:List V}(h:Rv w G v (.sl l)):(v= .slice none 0 0/\l=[])\/∃(a:Addr) (c sz:Nat) (cc:Nat->Value),v= .slice (some a) l.length c/\l.length<=c/\c<=maxLen/\(0<l.length->G.O a.block= .fz)/\(∀x∈l,x.cells.length=sz)/\At w a cc (l.flatMap V.cells)/\∀(j:Nat) y,(l.flatMap V.cells)[j]? =some y->Rv w G (cc j) y:=by
 cases h with
 |slN=>exact .inl ⟨rfl,rfl⟩
 |slS a c l sz cc d g e i b f=>exact .inr ⟨a,c,sz,cc,rfl,d,g,e,i,b,f⟩
def Rv.vP{w:World}{G:Gh}{v:Value}{l:List V}(h:Rv w G v (.cap l)):(v= .slice none 0 0/\l=[])\/∃(a:Addr) (sz:Nat) (cc:Nat->Value),v= .slice (some a) l.length l.length/\l.length<=maxLen/\(0<l.length->G.O a.block= .fz)/\(∀x∈l,x.cells.length=sz)/\At w a cc (l.flatMap V.cells)/\∀(j:Nat) y,(l.flatMap V.cells)[j]? =some y->Rv w G (cc j) y:=by
 cases h with
 |capN=>exact .inl ⟨rfl,rfl⟩
 |capS a l sz cc e c f b d=>exact .inr ⟨a,sz,cc,rfl,e,c,f,b,d⟩
def Rv.wK{w:World}{G:Gh}{v:Value}{l:List V}(h:Rv w G v (.cap l)):Rv w G v (.sl l):=by
 cases h with
 |capN=>exact .slN
 |capS a l sz cc e c f b d=>exact .slS a l.length l sz cc (Po _) e c f b d
theorem sF{p:Nat->Prop}{q:Nat->Nat->Prop}{x:V}(h:x.ok p q):V.okL p q x.cells:=by
 cases x<;>simp_all [V.cells,V.ok,V.okL]
theorem Inv.ev{T:Tab}{Φ:Fr}{σ:St}{a:Act}{w:World}{G:Gh}(inv:Inv T Φ σ a w G)(x:Operand):Rv w G (a.eval x) (σ.ev x)/\(σ.ev x).ok σ.hasB σ.hasA:=by
 cases x with
 |tmp t=>exact⟨inv.env t,inv.wfE t⟩
 |const v=>
  simp only[Act.eval,St.ev];unfold dD8;split;rename_i cs;by_cases hc:allR Value.oneCell' cs.toList=true;rw[hc];have b:=dY.1 hc;refine⟨Rv.agg cs _ (by simp[dU]) (by simpa using b) λi c x hc d=>?_,?_⟩;rw[dU,PK]at d;have:cs.toList[i]? =some c:=CQ;rw[this]at d;simp at d;subst d;exact .lit c (b c (Pn this));simp_all [Qo,aH,dU,PI,V.ok];rw[QS]at hc;rw[hc];exact⟨.bot _,by simp only[Qu,V.ok]⟩;exact⟨.bot _,Bq⟩;rename_i e j;refine⟨.lit v ?_,Bq⟩;cases v<;>simp_all [Value.oneCell']
 |global g=>exact⟨.bot _,by simp only[St.ev,V.ok]⟩
 |func f=>exact⟨.fn f #[] [] rfl (λi c x hc=>He),by simp only[St.ev,V.ok,V.okL]⟩
def Out(T:Tab)(Φ:Fr)(σ:St)(a:Act)(K:VK)(res:Result Next):Prop:=
 ∃v' w' v ms G',(res= .ok (.value v') w'\/(res= .ok .skip w'/\v'=undef))/\K v ms/\Inv T Φ (σ.apps ms) a w' G'/\Rv w' G' v' v/\v.ok (σ.apps ms).hasB (σ.apps ms).hasA
def Out.plain{T:Tab}{Φ:Fr}{σ:St}{a:Act}{w:World}{G:Gh}{K:VK}{b:Result Next}{v':Value}{v:V}(inv:Inv T Φ σ a w G)(e:b= .ok (.value v') w)(c:K v [])(hv:Rv w G v' v)(d:v.ok σ.hasB σ.hasA):Out T Φ σ a K b:=
 ⟨v',w,v,[],G, .inl e,c,inv,hv,d⟩
section
variable{T:Tab}{P:Program}{Φ:Fr}{σ:St}{a:Act}{w:World}{G:Gh}{K:VK}{o:Oper}{d:Nat}
def B_ok(b:Bool)(w:World)(G:Gh):Rv w G (.bool b) (B b):= .lit _ rfl
def I_ok(k:IntKind)(n:Int)(w:World)(G:Gh):Rv w G (.int k n) (lC k n):= .lit _ rfl
theorem dL{u:Value}{p:Nat->Prop}{q:Nat->Nat->Prop}:(V.lit u).ok p q:=Bq
def cZ8(inv:Inv T Φ σ a w G)(x:Operand)(ho:o.op= .move x)(h:force (σ.ev x) λv=>K v []):Out T Φ σ a K ((execOp a.eval o).run P w):=Kv
def bL7(inv:Inv T Φ σ a w G)(x:Operand)(g:o.op= .nilCheck x)(h:cond (dE6 (σ.ev x)) (force (σ.ev x) λv=>K v []) False):Out T Φ σ a K ((execOp a.eval o).run P w):=by
 obtain⟨e,h⟩:=aT h;rw[force_eq]at h;obtain⟨b,f⟩:=inv.ev x
 have c:∃A,a.eval x= .pointer (some A):=by
  generalize σ.ev x=y at b e;generalize a.eval x=v at b;cases b<;>first|exact⟨_,rfl⟩|exact absurd e Ai|(simp[dE6]at e)
 obtain⟨A,c⟩:=c;have i:(execOp a.eval o).run P w= .ok (.value (a.eval x)) w:=by simp[execOp,g,c]
 exact .plain inv i h b f
def cB9(inv:Inv T Φ σ a w G)(x:Operand)(ho:o.op= .assign x)(h:force (σ.ev x) λv=>K v []):Out T Φ σ a K ((execOp a.eval o).run P w):=Kv
def dA3(inv:Inv T Φ σ a w G)(c x y:Operand)(f:o.op= .pick c x y)(h:bA8 (σ.ev c) (σ.ev x) (σ.ev y) K):Out T Φ σ a K ((execOp a.eval o).run P w):=by
 obtain⟨e,_⟩:=inv.ev c;obtain⟨i,j⟩:=inv.ev x;obtain⟨k,l⟩:=inv.ev y;unfold bA8 at h;split at h;rename_i t g;rw[g]at e;have b:=e.bH;cases t;simp only[branch,force_eq]at h;exact .plain inv (by simp[execOp,f,b,asBool]) h k l;simp only[branch,force_eq]at h;exact .plain inv (by simp[execOp,f,b,asBool]) h i j;exact h.elim
def dZ4(inv:Inv T Φ σ a w G)(u:UnOp)(t:TypeId)(x:Operand)(f:o.op= .unOp u t x)(h:unVC u (σ.ev x) K):Out T Φ σ a K ((execOp a.eval o).run P w):=by
 obtain⟨c,_⟩:=inv.ev x;unfold unVC at h;split at h;rename_i b e;rw[e]at c;have hv:=c.bH;exact .plain inv (by simp[execOp,f,hv,Op.unary]) h (B_ok _ _ _) dL;rename_i k n e;rw[e]at c;have hv:=c.bH;exact .plain inv (by simp[execOp,f,hv,Op.unary,Op.intArith]) (wI h) (I_ok _ _ _ _) dL;rename_i k n e;rw[e]at c;have hv:=c.bH;exact .plain inv (by simp[execOp,f,hv,Op.unary,Op.intBits,notI,xorI]) h (I_ok _ _ _ _) dL;exact h.elim
def yY(x y:Operand)(b:BinOp)(t i:TypeId)(e:o.op= .binOp b t x y i)(u v r:Value)(g:a.eval x=u)(h:a.eval y=v)
 (c:(eqGuard b t x y u v).run P w= .ok () w)(f:(binOp b t u v).run P w= .ok r w):(execOp a.eval o).run P w= .ok (.value r) w:=by
 simp only[execOp,e,g,h,Qd,c,f,P9,Qz]
def qZ(b:BinOp)(t:TypeId)(x y:Operand)(u v:Value)(h:∀cs,u≠ .agg cs)(c:u≠ .nilIface):(eqGuard b t x y u v).run P w= .ok () w:=by
 cases u with
 |agg cs=>exact absurd rfl (h cs)
 |nilIface=>exact absurd rfl c
 |_=>cases b<;>simp[eqGuard]
def dM7(inv:Inv T Φ σ a w G)(x y:Operand)(c:BinOp)(t e:TypeId)(j:o.op= .binOp c t x y e)(k:IntKind)(m n:Int)(q:a.eval x= .int k m)(s:a.eval y= .int k n)
 (h:cM6 c k m n K):Out T Φ σ a K ((execOp a.eval o).run P w):=by
 have g:(eqGuard c t x y (.int k m) (.int k n)).run P w= .ok () w:=qZ _ _ _ _ _ _ Af Af
 have b:∀r:Value,r.oneCell'=true->(binOp c t (.int k m) (.int k n)).run P w= .ok r w->K (.lit r) []->Out T Φ σ a K ((execOp a.eval o).run P w):=λr f l i=>
  .plain inv (yY x y c t e j _ _ r q s g l) i (.lit r f) dL
 unfold cM6 at h;split at h
 ·exact b _ rfl FM (wI h)
 ·exact b _ rfl FM (wI h)
 ·exact b _ rfl FM (wI h)
 ·obtain⟨h0,h⟩:=dX h
  exact b _ rfl (by simp[binOp,Op.intDiv,h0]) (wI h)
 ·obtain⟨h0,h⟩:=dX h
  exact b _ rfl (by simp[binOp,Op.intDiv,h0]) h
 ·obtain⟨h0,h⟩:=dX h
  exact b _ rfl ES h
 ·obtain⟨h0,h⟩:=dX h
  exact b _ rfl ET (wI h)
 ·exact b _ rfl (by simp[binOp,Op.intBits,orI]) h
 ·exact b _ rfl (by simp[binOp,Op.intBits,xorI]) h
 ·exact b _ rfl (by simp[binOp,Op.intBits,andI]) h
 ·exact b _ rfl (by simp[binOp,Op.intCmp,ltB]) h
 ·exact b _ rfl (by simp[binOp,Op.intCmp,ltB]) h
 ·exact b _ rfl (by simp[binOp,Op.intCmp,leB]) h
 ·exact b _ rfl (by simp[binOp,Op.intCmp,leB]) h
 ·exact b (.bool (eqB m n)) rfl (by simp[binOp,Op.intCmp,eqB];exact Qv.2 (by simp)) h
 ·exact b (.bool (!eqB m n)) rfl (by simp[binOp,Op.intCmp,eqB,bne];exact Qv.2 (by simp)) h
 ·exact h.elim
def sh_sound(inv:Inv T Φ σ a w G)(x y:Operand)(c:BinOp)(t f:TypeId)(l:o.op= .binOp c t x y f)(k e:IntKind)(m n:Int)(s:a.eval x= .int k m)(u:a.eval y= .int e n)
 (h:shVC c k m n K):Out T Φ σ a K ((execOp a.eval o).run P w):=by
 have i:(eqGuard c t x y (.int k m) (.int e n)).run P w= .ok () w:=qZ _ _ _ _ _ _ Af Af
 have b:∀r:Value,r.oneCell'=true->(binOp c t (.int k m) (.int e n)).run P w= .ok r w->K (.lit r) []->Out T Φ σ a K ((execOp a.eval o).run P w):=λr g q j=>
  .plain inv (yY x y c t f l _ _ r s u i q) j (.lit r g) dL
 unfold shVC at h;split at h
 ·obtain⟨h0,h⟩:=dX h
  exact b _ rfl ES h
 ·obtain⟨h0,h⟩:=dX h
  exact b _ rfl ET (wI h)
 ·exact h.elim
def dM9(inv:Inv T Φ σ a w G)(x y:Operand)(c:BinOp)(t e:TypeId)(j:o.op= .binOp c t x y e)(m n:ByteArray)(l:a.eval x= .string m)(q:a.eval y= .string n)
 (h:cH0 c m n K):Out T Φ σ a K ((execOp a.eval o).run P w):=by
 have g:(eqGuard c t x y (.string m) (.string n)).run P w= .ok () w:=qZ _ _ _ _ _ _ Af Af
 have b:∀r:Value,r.oneCell'=true->(binOp c t (.string m) (.string n)).run P w= .ok r w->K (.lit r) []->Out T Φ σ a K ((execOp a.eval o).run P w):=λr f k i=>
  .plain inv (yY x y c t e j _ _ r l q g k) i (.lit r f) dL
 unfold cH0 at h;split at h
 ·obtain⟨s,h⟩:=dX h
  refine b _ rfl ?_ h;have:¬(IntKind.i64.max< ((m.size+n.size:Nat):Int)):=by simp[IntKind.max,IntKind.signed,IntKind.bits];omega
  simp only[binOp,Op.stringOp];rw[Ph (by simpa using this)];simp
 ·exact b _ rfl (by simp[binOp,Op.stringOp,eqS]) h
 ·exact b _ rfl (by simp[binOp,Op.stringOp,eqS]) h
 ·exact b _ rfl (by simp[binOp,Op.stringOp,ltS]) h
 ·exact b (.bool (!(ltS m n||eqS m n))) rfl (by simp[binOp,Op.stringOp,ltS,eqS]) h
 ·exact b _ rfl (by simp[binOp,Op.stringOp,ltS,eqS]) h
 ·exact b _ rfl (by simp[binOp,Op.stringOp,ltS]) h
 ·exact h.elim
def dI{t:TypeId}{b:TypeDesc}(h:P.underlying t=some b)(w:World):(underlying t).run P w= .ok b w:=Qb h w
def cO9{t:TypeId}{i:TypeInfo}(h:P.info? t=some i)(w:World):(typeInfo t).run P w= .ok i w:=by simp[typeInfo,h]
theorem bG2{t:TypeId}{i:TypeInfo}(h:P.info? t=some i)(w:World):(sizeOf t).run P w= .ok i.size w:=by simp[sizeOf,typeInfo,h]
def dI4{t:TypeId}{r:Row}(h:aH9 P t r)(hk:r.kd= .bool):P.underlying t=some .bool:=KO
def bG8{t:TypeId}(c:P.underlying t=some .bool)(m n:Bool):(Op.equal t (.bool m) (.bool n)).run P w= .ok (m==n) w:=by
 have h:∀b,(Op.equalIn (b+1) t (.bool m) (.bool n)).run P w= .ok (m==n) w:=λb=>by simp[Op.equalIn,dI c]
 exact h 9999
def cV0(g:bP T P)(inv:Inv T Φ σ a w G)(x y:Operand)(e:BinOp)(t j:TypeId)(q:o.op= .binOp e t x y j)(m n:Bool)(u:a.eval x= .bool m)(v:a.eval y= .bool n)
 (i:t<T.n t)(h:bG1 e (T.row t).kd m n K):Out T Φ σ a K ((execOp a.eval o).run P w):=by
 have l:(eqGuard e t x y (.bool m) (.bool n)).run P w= .ok () w:=qZ _ _ _ _ _ _ Af Af
 have b:∀r:Value,r.oneCell'=true->(binOp e t (.bool m) (.bool n)).run P w= .ok r w->K (.lit r) []->Out T Φ σ a K ((execOp a.eval o).run P w):=λr k s c=>
  .plain inv (yY x y e t j q _ _ r u v l s) c (.lit r k) dL
 unfold bG1 at h;split at h
 ·rename_i c
  have f:=dI4 (g t i) c;exact b _ rfl (by simp[binOp,bG8 f,eqBB]) h
 ·rename_i c
  have f:=dI4 (g t i) c;exact b (.bool (!eqBB m n)) rfl (by simp[binOp,bG8 f,eqBB]) h
 ·exact h.elim
def bN4(inv:Inv T Φ σ a w G)(x:Operand)(i:Nat)(g:o.op= .extract x i)(h:wZ (σ.ev x) i K):Out T Φ σ a K ((execOp a.eval o).run P w):=by
 obtain⟨c,k⟩:=inv.ev x;unfold wZ at h;split at h;rename_i cs j;rw[j]at c k;split at h;rename_i v hv;rw[force_eq]at h;generalize b:a.eval x=l at c;cases c with
 |tup vs xs f e=>
  have hi:i<vs.size:=by rw[f];exact(Pg.1 hv).1
  refine .plain inv (v':=vs[i]) (by simp[execOp,g,b,Instr.extract,hi]) h (e i _ _ (by simp[hi]) hv) ?_;grind [aH,Pn,V.ok]
 exact h.elim;exact h.elim
theorem dG0(a b:Int):maxI a b=if b>a then b else a:=by unfold maxI;by_cases h:b>a<;>simp[h]
theorem dJ1(a b:Int):minI a b=if b<a then b else a:=by unfold minI;by_cases h:b<a<;>simp[h]
theorem aK6(inv:Inv T Φ σ a w G)(b:Builtin)(f:Int->Int->Int)(r:(b= .max/\f=maxI)\/(b= .min/\f=minI))(as:List Operand)(v:Array TypeId)
 (p:o.op= .call ⟨.builtin b,⟨as⟩,v⟩)(h:rP f (mapR σ.ev as) K):Out T Φ σ a K ((execOp a.eval o).run P w):=by
 rw[dU]at h;unfold rP at h;split at h
 ·rename_i k m t n g
  rcases as with _|⟨x,_|⟨y,_|⟨z,as⟩⟩⟩<;>try(simp at g;done)
  ·simp only[PW,QC,List.cons.injEq,and_true]at g
   obtain⟨j,_⟩:=inv.ev x;obtain⟨l,_⟩:=inv.ev y;rw[g.1]at j;rw[g.2]at l;have c:=j.bH;have e:=l.bH;rcases r with⟨rfl,rfl⟩|⟨rfl,rfl⟩
   ·exact .plain inv (by simp[execOp,p,resolve,invoke,builtin,c,e,Builtin.max_,Builtin.max2,dG0]) h (I_ok _ _ _ _) dL
   ·exact .plain inv (by simp[execOp,p,resolve,invoke,builtin,c,e,Builtin.min_,Builtin.min2,dJ1]) h (I_ok _ _ _ _) dL
 ·rename_i k m t n u q g
  rcases as with _|⟨x,_|⟨y,_|⟨z,_|⟨A,as⟩⟩⟩⟩<;>try(simp at g;done)
  ·simp only[PW,QC,List.cons.injEq,and_true]at g
   obtain⟨j,_⟩:=inv.ev x;obtain⟨l,_⟩:=inv.ev y;obtain⟨s,_⟩:=inv.ev z;rw[g.1]at j;rw[g.2.1]at l;rw[g.2.2]at s;have c:=j.bH;have e:=l.bH;have i:=s.bH;rcases r with⟨rfl,rfl⟩|⟨rfl,rfl⟩
   ·exact .plain inv (by simp[execOp,p,resolve,invoke,builtin,c,e,i,Builtin.max_,Builtin.max2,dG0]) h (I_ok _ _ _ _) dL
   ·exact .plain inv (by simp[execOp,p,resolve,invoke,builtin,c,e,i,Builtin.min_,Builtin.min2,dJ1]) h (I_ok _ _ _ _) dL
 ·exact h.elim
end
section
variable{T:Tab}{P:Program}{Φ:Fr}{σ σ':St}{a:Act}{w w':World}{G G':Gh}
def gJ.keep{k:Nat}{u:Value}{ty:TypeId}{l:List V}(r:Keep w w' G G')(hp:bM l)(d:∀b,G.O b= .ar k->G'.O b= .ar k/\w'.heap[b]? =w.heap[b]?)(h:gJ T w G k u ty l):gJ T w' G' k u ty l:=by
 rcases h with h|⟨b,cap,cur,e,c,f,g,i,m,n,o⟩;exact .inl h;refine .inr ⟨b,cap,cur,e,(d b c).1,(d b c).2.trans f,g,i,m,n,o.keep r (p:=λ_=>False) (q:=λ_ _=>False) ?_ (λ_ h=>h.elim) (λ_ _ h=>h.elim)⟩;rw[aH];intro y hy;exact OD
def Rv.aW{v:Value}{x:V}(b:Keep w w' G G')(c:x.pure)(h:Rv w G v x):Rv w' G' v x:=h.keep b c (λ_ h=>h.elim) (λ_ _ h=>h.elim)
def bL6.keep{d:TypeDesc}{k:Nat}{u:Value}{es:List V}(q:Keep w w' G G')(g:∀b,G.O b= .ar k->G'.O b= .ar k/\w'.heap[b]? =w.heap[b]?)(h:bL6 d w G k u es):bL6 d w' G' k u es:=by
 obtain⟨b,e,c,m,f,n,o,p⟩:=h;refine⟨b,e,c,m,(g b f).1,(g b f).2.trans n,o,λs r=>?_⟩;have:=p s r;cases j:jG s es with
 |none=>rw[j]at this;exact this
 |some x=>
  rw[j]at this;obtain⟨i,v,t,y,z,l⟩:=this;exact⟨i,v,t,y,z.aW q l,l⟩
def gW.keep{k:Nat}{en:AE}(d:Keep w w' G G')(hp:bM en.l)(f:G'.av k en.gen=G.av k en.gen)(e:∀b,G.O b= .ar k->G'.O b= .ar k/\w'.heap[b]? =w.heap[b]?)(h:gW T w G k en):gW T w' G' k en:=by
 unfold gW at*;rw[f];have j:(V.sl en.l).pure:=Aq;have g:(V.cap en.l).pure:=Aq;split;rename_i c;rw[c]at h;simp only at h⊢;split;trivial;rename_i i;rw[i]at h;exact bL6.keep d e h;rename_i c;rw[c]at h;exact h.aW d j;rename_i c;rw[c]at h;exact⟨h.1,h.2.keep d hp e⟩;rename_i c;rw[c]at h;exact⟨h.1,h.2.imp (·.keep d hp e) (λh=>⟨h.1.aW d g,h.2⟩)⟩
def Inv.change(inv:Inv T Φ σ a w G)(henv:σ'.env=σ.env)(hk:Keep w w' G G')
 (hβ:∀i,σ.hasB i->G'.β i=G.β i)(hav:∀k g,σ.hasA k g->G'.av k g=G.av k g)
 (hB:∀i,σ.hasB i->σ'.hasB i)(hA:∀k g,σ.hasA k g->σ'.hasA k g)
 (hbox:∀i cs,σ'.bx i=some cs->(σ.bx i=some cs/\G'.O (G.β i)= .bx i/\w'.heap[G.β i]? =w.heap[G.β i]?)\/
  ((∃c t,w'.heap[G'.β i]? =some (.cells c t (0,0))/\RvL w' G' c.toList cs/\G'.O (G'.β i)= .bx i)/\V.okL σ'.hasB σ'.hasA cs))
 (harr:∀k en,σ'.ar k=some en->(σ.ar k=some en/\∀b,G.O b= .ar k->G'.O b= .ar k/\w'.heap[b]? =w.heap[b]?)\/(gW T w' G' k en/\bM en.l))
 (htag:∀b,G'.O b≠ .ext->b<w'.heap.size)(hO:∀b,G'.O b=G.O b\/G'.O b= .ext\/Φ.mine b)
 (hframe:∀b,w'.heap[b]? =w.heap[b]? \/Φ.mine b)(hsize:w.heap.size<=w'.heap.size)(hos:w'.os=w.os)(htape:w'.tape=w.tape)(hout:w'.output=w.output):Inv T Φ σ' a w' G' where
 nd:=inv.nd
 kp:=inv.kp
 sz:=inv.sz
 env s:=by rw[henv];exact(inv.env s).keep hk (inv.wfE s) hβ hav
 wfE s:=by rw[henv];exact V.ok.imp hB hA _ (inv.wfE s)
 box i cs hi:=by
  rcases hbox i cs hi with⟨h1,h2,h3⟩|⟨h1,_⟩;obtain⟨c,t,g1,g2,g3⟩:=inv.box i cs h1;refine⟨c,t,?_,g2.keep hk (inv.wfB i cs h1) hβ hav,?_⟩;rw[hβ i ⟨cs,h1⟩,h3];exact g1;rw[hβ i ⟨cs,h1⟩];exact h2;exact h1
 wfB i cs hi:=by
  rcases hbox i cs hi with⟨h1,_,_⟩|⟨_,h2⟩;exact V.okL.imp hB hA _ (inv.wfB i cs h1);exact h2
 arr k en hk':=by
  rcases harr k en hk' with⟨h1,h2⟩|⟨h1,_⟩;exact(inv.arr k en h1).keep hk (inv.wfA k en h1) (hav k en.gen ⟨en,h1,Po _⟩) h2;exact h1
 wfA k en hk':=by
  rcases harr k en hk' with⟨h1,_⟩|⟨_,h2⟩;exact inv.wfA k en h1;exact h2
 tag:=htag
 mineB b i h:=by
  rcases hO b with h1|h1|h1;exact inv.mineB b i (h1▸h);rw[h1]at h;cases h;exact h1
 mineA b k h:=by
  rcases hO b with h1|h1|h1;exact inv.mineA b k (h1▸h);rw[h1]at h;cases h;exact h1
 fzm b h:=by
  rcases hO b with h1|h1|h1;exact inv.fzm b (h1▸h);rw[h1]at h;cases h;exact .inr h1
 F0 b h:=hk.fz b (inv.F0 b h)
 frame b hb hg:=by
  rcases hframe b with h1|h1;rw[h1];exact inv.frame b hb hg;rcases h1 with h1|h1;omega;exact absurd h1 hg
 size:=PD inv.size hsize
 os:=hos.trans inv.os
 tape:=htape.trans inv.tape
 output:=hout.trans inv.output
 args j v h:=by
  obtain⟨h1,h2,en,h3⟩:=inv.args j v h;have hh:σ.hasA j 0:=⟨en,h3,P8 _⟩;obtain⟨en',h4,_⟩:=hA j 0 hh;simp_all
 lay:=inv.lay
 argb i b h:=by
  obtain⟨h1,h2,cs,h3⟩:=inv.argb i b h;obtain⟨cs',h4⟩:=hB i ⟨cs,h3⟩;exact⟨(hβ i ⟨cs,h3⟩).trans h1,h2,cs',h4⟩
theorem upd_same{b:Type}(f:Nat->b)(s:Nat)(x:b):upd f s x s=x:=by simp[upd]
theorem upd_ne{b:Type}(f:Nat->b){s t:Nat}(x:b)(h:t≠s):upd f s x t=f t:=by
 have:Nat.beq t s=false:=ER;simp[upd,this]
def Inv.ext_size(inv:Inv T Φ σ a w G){b:Nat}(h:w.heap.size<=b):G.O b= .ext:=by
 cases c:G.O b with
 |ext=>rfl
 |_=>have:=inv.tag b (by rw[c];simp);omega
theorem aN0(inv:Inv T Φ σ a w G):Φ.mine w.heap.size:= .inl inv.size
theorem Inv.lM(inv:Inv T Φ σ a w G){d:Nat}(hd:σ.bx d=none){c:Array Value}{t:TypeId}{cs:List V}(n:RvL w G c.toList cs)(j:V.okL σ.hasB σ.hasA cs):
 Inv T Φ (σ.apps [.b d cs]) a (w.alloc (.cells c t)) {G with β:=upd G.β d w.heap.size,O:=upd G.O w.heap.size (.bx d)}:=by
 have f:∀b,b<w.heap.size->(w.alloc (.cells c t)).heap[b]? =w.heap[b]? :=λb hb=>Ry w _ hb;have hne:∀b,G.O b≠ .ext->b≠w.heap.size:=λb hb e=>by have:=inv.tag b hb;omega
 have g:Keep w (w.alloc (.cells c t)) G {G with β:=upd G.β d w.heap.size,O:=upd G.O w.heap.size (.bx d)}:=
  ⟨λb hb=>BX,λb hb=>f b (inv.tag b Aw)⟩
 have l:∀i,σ.hasB i->upd G.β d w.heap.size i=G.β i:=λi ⟨x,hx⟩=>upd_ne _ _ (λe=>Dq)
 have m:∀i,σ.hasB i->(σ.apps [.b d cs]).hasB i:=λi ⟨x,hx⟩=>⟨x,by
  show upd σ.bx d _ i=_;rw[upd_ne _ _ (λe=>Dq)];exact hx⟩
 refine inv.change rfl g l (λ_ _ _=>rfl) m (λ_ _ h=>h) ?_ ?_ ?_ ?_ ?_ Af rfl rfl rfl
 ·intro i xs hi
  by_cases e:i=d
  ·subst e
   refine .inr ⟨⟨c,t,?_,?_,?_⟩,?_⟩
   ·show(w.alloc _).heap[upd G.β i w.heap.size i]? =_
    rw[upd_same];exact heap_alloc_new w _
   ·have:xs=cs:=by
     exact Ns
    subst this;exact n.keep g j l (λ_ _ _=>rfl)
   ·grind [upd_same]
   ·have:xs=cs:=by
     exact Ns
    subst this;exact V.okL.imp m (λ_ _ h=>h) _ j
  ·exact J7
 ·intro k en o
  refine .inl ⟨o,λb hb=>?_⟩;have q:=inv.tag b Aw;grind [upd_ne]
 ·intro b hb
  by_cases e:b=w.heap.size
  ·subst e;simp
  ·have h2:upd G.O w.heap.size (.bx d) b≠ .ext:=hb
   rw[upd_ne _ _ e]at h2;have:=inv.tag b h2;simp;omega
 ·grind [aN0,upd_ne]
 ·intro b
  rcases Si b w.heap.size with h|h|h
  ·exact .inl (f b h)
  ·subst h;exact .inr (aN0 inv)
  ·refine .inl ?_
   rw[RZ Be,RZ Aa]
def Inv.takeBox(inv:Inv T Φ σ a w G){d:Nat}(hd:σ.bx d=none){f:Nat}(g:G.O f= .ext)(u:Φ.mine f)(l:f<w.heap.size){c:Array Value}{t:TypeId}{cs:List V}(s:w.heap[f]? =some (.cells c t (0,0)))(q:RvL w G c.toList cs)(m:V.okL σ.hasB σ.hasA cs):
 Inv T Φ (σ.apps [.b d cs]) a w {G with β:=upd G.β d f,O:=upd G.O f (.bx d)}:=by
 have hne:∀b,G.O b≠ .ext->b≠f:=λb hb e=>hb (by rw[e];exact g)
 have j:Keep w w G {G with β:=upd G.β d f,O:=upd G.O f (.bx d)}:=
  ⟨λb hb=>BX,λb hb=>rfl⟩
 have n:∀i,σ.hasB i->upd G.β d f i=G.β i:=λi ⟨x,hx⟩=>upd_ne _ _ (λe=>Dq)
 have o:∀i,σ.hasB i->(σ.apps [.b d cs]).hasB i:=λi ⟨x,hx⟩=>⟨x,by
  show upd σ.bx d _ i=_;rw[upd_ne _ _ (λe=>Dq)];exact hx⟩
 refine inv.change rfl j n (λ_ _ _=>rfl) o (λ_ _ h=>h) ?_ ?_ ?_ ?_ ?_ (Po _) rfl rfl rfl
 ·intro i xs hi
  by_cases e:i=d
  ·subst e
   have hx:xs=cs:=by
    exact Ns
   subst hx;refine .inr ⟨⟨c,t,?_,q.keep j m n (λ_ _ _=>rfl),?_⟩,V.okL.imp o (λ_ _ h=>h) _ m⟩
   ·grind [upd_same]
   ·grind [upd_same]
  ·exact J7
 ·intro k en r
  refine .inl ⟨r,λb hb=>?_⟩;grind [upd_ne]
 ·intro b hb
  by_cases e:b=f
  ·subst e;exact l
  ·have h2:upd G.O f (.bx d) b≠ .ext:=hb
   rw[upd_ne _ _ e]at h2;exact inv.tag b h2
 ·grind [upd_ne]
 ·intro b
  exact .inl rfl
def Inv.eJ4(inv:Inv T Φ σ a w G){i:Nat}{old cs:List V}(hi:σ.bx i=some old){c:Array Value}{t:TypeId}(v:RvL w G c.toList cs)(m:V.okL σ.hasB σ.hasA cs)
 (A:w'.heap[G.β i]? =some (.cells c t (0,0)))(q:∀b,b≠G.β i->w'.heap[b]? =w.heap[b]?)(z:w'.heap.size=w.heap.size)(r:w'.os=w.os)(f:w'.tape=w.tape)(n:w'.output=w.output):
 Inv T Φ (σ.apps [.b i cs]) a w' G:=by
 obtain⟨D,L,E,F,o⟩:=inv.box i old hi;have l:Keep w w' G G:=⟨λ_ h=>h,λb d=>q b (λe=>by subst e;rw[o]at d;cases d)⟩
 have s:∀j,σ.hasB j->(σ.apps [.b i cs]).hasB j:=λj ⟨x,B⟩=>by
  by_cases e:j=i;subst e;exact⟨cs,upd_same _ _ _⟩;exact⟨x,by show upd σ.bx i _ j=_;rw[upd_ne _ _ e];exact B⟩
 refine inv.change rfl l (λ_ _=>rfl) (λ_ _ _=>rfl) s (λ_ _ h=>h) ?_ ?_ ?_ (λ_=> .inl rfl) ?_ Aa r f n
 ·intro j xs u
  by_cases e:j=i
  ·subst e
   have:xs=cs:=by
    have g:upd σ.bx j (some cs) j=some xs:=u;rw[upd_same]at g;cases g;rfl
   subst this;exact .inr ⟨⟨c,t,A,v.keep l m (λ_ _=>rfl) (λ_ _ _=>rfl),o⟩,V.okL.imp s (λ_ _ h=>h) _ m⟩
  ·have g:σ.bx j=some xs:=by
    have g:upd σ.bx i (some cs) j=some xs:=u;rwa [upd_ne _ _ e]at g
   obtain⟨C,K,H,I,J⟩:=inv.box j xs g;grind
 ·intro k en y
  exact .inl ⟨y,λb d=>⟨d,q b (λe=>by subst e;rw[o]at d;cases d)⟩⟩
 ·intro b d;rw[z];exact inv.tag b d
 ·intro b
  by_cases e:b=G.β i
  ·subst e;exact .inr (inv.mineB _ i o)
  ·exact .inl (q b e)
def Inv.zU(inv:Inv T Φ σ a w G){k:Nat}{en:AE}{av':Nat->Nat->Value}{O':Nat->Tag}
 (D:∀g,σ.hasA k g->g<=en.gen)(r:∀z g,σ.hasA z g->av' z g=G.av z g)(H:bM en.l)
 (v:gW T w' {G with av:=av',O:=O'} k en)
 (A:∀b,G.O b≠ .ext->G.O b≠ .ar k->O' b=G.O b)(q:∀b,O' b=G.O b\/O' b= .ext\/(O' b= .ar k/\Φ.mine b/\b<w'.heap.size)\/(O' b= .fz/\G.O b= .ar k))
 (u:∀b,b<w.heap.size->G.O b≠ .ar k->w'.heap[b]? =w.heap[b]?)(I:w.heap.size<=w'.heap.size)(y:w'.os=w.os)(d:w'.tape=w.tape)(n:w'.output=w.output):
 Inv T Φ (σ.apps [.a k en]) a w' {G with av:=av',O:=O'}:=by
 have m:∀b,G.O b≠ .ext->b<w.heap.size:=inv.tag;have s:Keep w w' G {G with av:=av',O:=O'}:=⟨λb hb=>(A b Aw Aw).trans hb,λb hb=>u b (m b Aw) Aw⟩
 have o:∀j g,σ.hasA j g->(σ.apps [.a k en]).hasA j g:=λj g B=>by
  by_cases e:j=k;subst e;exact⟨en,upd_same _ _ _,D g B⟩;obtain⟨x,J,E⟩:=B;exact⟨x,by show upd σ.ar k _ j=_;rw[upd_ne _ _ e];exact J,E⟩
 refine inv.change rfl s (λ_ _=>rfl) r (λ_ h=>h) o ?_ ?_ ?_ ?_ ?_ I y d n
 ·intro i cs hi
  obtain⟨c,t,K,L,q3⟩:=inv.box i cs hi;have F:=m (G.β i) FU;exact .inl ⟨hi,(A _ FU FU).trans q3,u _ F FU⟩
 ·intro j x C
  by_cases e:j=k
  ·subst e
   have:x=en:=by
    have f:upd σ.ar j (some en) j=some x:=C;rw[upd_same]at f;cases f;rfl
   subst this;exact .inr ⟨v,H⟩
  ·have f:σ.ar j=some x:=by
    have f:upd σ.ar k (some en) j=some x:=C;rwa [upd_ne _ _ e]at f
   simp_all
 ·grind
 ·intro b
  rcases q b with h|h|h|h
  ·exact .inl h
  ·exact .inr (.inl h)
  ·exact .inr (.inr h.2.1)
  ·exact .inr (.inr (inv.mineA b k h.2))
 ·intro b
  rcases Qx b w.heap.size with h|h
  ·by_cases e:G.O b= .ar k
   ·exact .inr (inv.mineA b k e)
   ·exact .inl (u b h e)
  ·exact .inr (.inl (PD inv.size h))
def Inv.bA3(inv:Inv T Φ σ a w G){d:Nat}(hd:Φ.wr d){v':Value}{v:V}(hv:Rv w G v' v)(hok:v.ok σ.hasB σ.hasA):Inv T Φ (σ.set d v) (a.put (some d) v') w G where
 nd:=inv.nd
 kp s u h:=by
  have hs:s≠d:=λe=>by rw[e,hd.2]at h;cases h
  show(a.tmps.setIfInBounds d v').getD s undef=u;rw[show(a.tmps.setIfInBounds d v').getD s undef=a.tmps.getD s undef by simp[Array.getElem?_setIfInBounds_ne (Ne.symm hs)]];exact inv.kp s u h
 sz:=by show(a.tmps.setIfInBounds d v').size=_;simp[inv.sz]
 env s:=by
  show Rv w G ((a.tmps.setIfInBounds d v').getD s undef) (upd σ.env d v s);by_cases e:s=d;subst e;rw[upd_same];have:(a.tmps.setIfInBounds s v').getD s undef=v':=by simp[inv.sz,hd.1]
  rw[this];exact hv;rw[upd_ne _ _ e]
  have:(a.tmps.setIfInBounds d v').getD s undef=a.tmps.getD s undef:=by
   simp[Array.getElem?_setIfInBounds_ne (Ne.symm e)]
  rw[this];exact inv.env s
 wfE s:=by
  show(upd σ.env d v s).ok _ _;by_cases e:s=d;subst e;rw[upd_same];exact hok;rw[upd_ne _ _ e];exact inv.wfE s
 box:=inv.box
 wfB:=inv.wfB
 arr:=inv.arr
 wfA:=inv.wfA
 tag:=inv.tag
 mineB:=inv.mineB
 mineA:=inv.mineA
 fzm:=inv.fzm
 F0:=inv.F0
 frame:=inv.frame
 size:=inv.size
 os:=inv.os
 tape:=inv.tape
 output:=inv.output
 args:=inv.args
 lay:=inv.lay
 argb:=inv.argb
def Inv.drew(inv:Inv T Φ σ a w G)(n:Nat):Inv T Φ σ a {w with drawn:=n} G:=
 inv.change rfl ⟨λ_ h=>h,λ_ _=>rfl⟩ (λ_ _=>rfl) (λ_ _ _=>rfl) (λ_ h=>h) (λ_ _ h=>h)
  (λi cs hi=> .inl ⟨hi,(inv.box i cs hi).choose_spec.choose_spec.2.2,rfl⟩) (λ_ _ c=> .inl ⟨c,λ_ b=>⟨b,rfl⟩⟩) inv.tag (λ_=> .inl rfl) (λ_=> .inl rfl) (Po _) rfl rfl rfl
end
end Go.Ab
