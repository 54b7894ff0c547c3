/- Lemmas. -/
import Derived.Test.YtcmgfjaiegpddaaGreatA10
import Derived.KernelRfl
import Derived.Deep.Slices
import Derived.ChangeSame
import Derived.Carry
import Derived.OpenShut
import Derived.ProofKit
import Derived.SizedLaws
set_option linter.all false
noncomputable section
namespace Go.Ab
section
variable{T:Tab}{P:Program}{σ:St}
def eY7{x y:aA2}{Q:Exit->St->Prop}(h:x σ λe a=>match e with
 | .normal=>y a Q
 |e=>Q e a):dG2 T x y σ Q:=by refine⟨?_⟩;exact .inl h
def dJ4{x y:aA2}{Q:Exit->St->Prop}(A:Type)(st:A->St)(inv:A->Prop)(h:x σ λe a=>match e with
 | .normal=>∃p,Le T a (st p)/\inv p
 |e=>Q e a)(b:∀p,inv p->y (st p) Q):dG2 T x y σ Q:=by refine⟨?_⟩;exact .inr ⟨⟨A,st,inv,λ_=>0⟩,h,b⟩
def lD{x:aA2}{Q:Exit->St->Prop}{A:Type}(st:A->St)(inv:A->Prop)(m:A->Nat)(b:A)(c:Le T σ (st b))(d:inv b)(h:∀p,inv p->x (st p) λe a=>match e with
 | .normal=>∃p',Le T a (st p')/\inv p'/\m p'<m p
 |e=>Q e a):bI0 T x σ Q:=by refine⟨?_⟩;exact⟨⟨A,st,inv,m⟩,⟨b,c,d⟩,h⟩
theorem jU{b:Bool}{A B:Prop}(a:b=true->A)(c:b=false->B):branch b A B:=by
 cases b;exact c rfl;exact a rfl
theorem dC8{a b:Int}:ltB a b=true↔a<b:=by unfold ltB;simp
def eU6{a b:Int}:ltB a b=false↔b<=a:=by unfold ltB;simp
theorem bV6{a b:Int}:leB a b=true↔a<=b:=by unfold leB;simp
def eU7{a b:Int}:leB a b=false↔b<a:=by unfold leB;simp
theorem aA1{a b:Int}:eqB a b=true↔a=b:=by unfold eqB;simp
def dY0{a b:Int}:eqB a b=false↔a≠b:=by unfold eqB;simp
theorem eQ7(a b:Bool):andB a b=(a&&b):=by unfold andB;rfl
theorem cA1(a b:Bool):eqBB a b=(a==b):=by unfold eqBB;rfl
def br_lt{a b:Int}{A B:Prop}(c:a<b->A)(d:b<=a->B):branch (ltB a b) A B:=jU (λh=>c (dC8.1 h)) (λh=>d (eU6.1 h))
def br_le{a b:Int}{A B:Prop}(c:a<=b->A)(d:b<a->B):branch (leB a b) A B:=jU (λh=>c (bV6.1 h)) (λh=>d (eU7.1 h))
def eV7{a b:Int}{A B:Prop}(c:a=b->A)(d:a≠b->B):branch (eqB a b) A B:=jU (λh=>c (aA1.1 h)) (λh=>d (dY0.1 h))
def eZ2{b:Bool}{A B:Prop}(h:branch b B A):branch (!b) A B:=by cases b<;>exact h
theorem mG(a b:Int):maxI a b=max a b:=by unfold maxI;split<;>omega
theorem lH(a b:Int):minI a b=min a b:=by unfold minI;split<;>omega
def eH4{n:Int}{K:Int->Prop}(h: -9223372036854775808<=n/\n<=9223372036854775807)(a:K n):arith .i64 n K:=by
 refine⟨?_⟩;rw[show IntKind.wrap .i64 n=n from IntWalk.i64_in _ Aa];exact a
def fU{p K:Prop}(h:p)(a:K):need p K:=by refine⟨?_⟩;exact⟨h,a⟩
def eQ9{a:Type}{f:a->V}{l:List a}{i:Nat}{K:V->Prop}(hi:i<l.length)(h:∀x,l[i]? =some x->K (f x)):idx (l.map f) i K:=by
 refine⟨?_⟩;exact⟨f l[i],by simp[hi],h _ (by simp[hi])⟩
def dE3{l:List V}{i:Nat}{K:V->Prop}(x:V)(h:l[i]? =some x)(a:K x):idx l i K:=by refine⟨?_⟩;exact⟨x,h,a⟩
def eZ1{T:Tab}{env:Nat->V}{ops:List Oper}{K:List (Nat×List Nat)->Prop}{A:Prop}(h:cP6 T ops=true)(a:K []):aC9 T env ops K A:=by refine⟨?_⟩;exact .inl ⟨[],[],trivial,h,a⟩
def cC0{T:Tab}{env:Nat->V}{ops:List Oper}{K:List (Nat×List Nat)->Prop}{A:Prop}(a:List (Nat×Nat))(b:cO4 a env)(h:oO T a [] ops=true)(c:K []):aC9 T env ops K A:=by refine⟨?_⟩;exact .inl ⟨a,[],b,h,c⟩
def bW8{T:Tab}{env:Nat->V}{ops:List Oper}{K:List (Nat×List Nat)->Prop}{A:Prop}(a:List (Nat×Nat))(hv:List (Nat×List Nat))(b:cO4 a env)(h:oO T a hv ops=true)(c:K hv):aC9 T env ops K A:=by refine⟨?_⟩;exact .inl ⟨a,hv,b,h,c⟩
def draw_t{T:Tab}{env:Nat->V}{ops:List Oper}{K:List (Nat×List Nat)->Prop}{A:Prop}(h:A):aC9 T env ops K A:=by refine⟨?_⟩;exact .inr h
def both_i{A B:Prop}(a:A)(b:B):bothVC A B:=⟨⟨a,b⟩⟩
def aS5{a:Md}{d:Nat}{f:FuncId}{xs ys:List V}{r:V}{K:VK}(g:Spec T P f ys r)(lend:Bool)(c:iQ T σ.ar ys xs)(b:sO a.light lend xs ys r=true)
 (e:zZ σ d (reuse σ (bD ys xs)) r λv h=>K v (appR (cond lend [] (aV σ (bK ys xs))) (appR (aX σ (bD ys xs)) h))):kY T P a σ d f xs K:=by
 refine⟨.inl ?_⟩;exact⟨ys,r,lend,c,b,g,e⟩
def aQ2{d:Nat}{f:FuncId}{xs ys:List V}{r:V}{K:VK}{j k g:Nat}{e:TypeId}{l b:List V}(n:bE5 T P f ys r j e b)(p:ys[j]? =some (.own e l))(o:xs[j]? =some (.arr k g))(i:iQ T σ.ar ys xs)(c:sO false false xs ys r=true)(h:aH7 r=true)
 (m:K r (appR (aV σ (bK ys xs)) (appR (aX σ (bD ys xs)) [.a k ⟨g, .own,e,b⟩]))):kY T P .free σ d f xs K:=by
 refine⟨.inr (.inl ⟨rfl,ys,r,j,k,g,e,l,b,i,c,n,p,o,h,m⟩)⟩
def fC9{a:Md}{d:Nat}{f:FuncId}{xs ys:List V}{bs b:List (List V)}{r:V}{K:VK}(i:aU2 T P f ys bs r b)(is:List Nat)(h:a.may d is ((xs,ys)::eU σ.bx bs is)=true)(e:xM T σ.ar is ((xs,ys)::eU σ.bx bs is))(c:zA σ.bx ((xs,ys)::eU σ.bx bs is) is bs r=true)
 (g:aX2 σ.bx σ.ar is (ownG ((xs,ys)::eU σ.bx bs is)) d r b λv j=>K v (appR (aV σ (mF ((xs,ys)::eU σ.bx bs is))) (appR (aX σ (ownG ((xs,ys)::eU σ.bx bs is))) j))):kY T P a σ d f xs K:=by
 refine⟨.inr (.inr (.inl ⟨ys,is,bs,r,b,h,e,c,i,g⟩))⟩
def call_n{d:Nat}{f:FuncId}{xs ys:List V}{a:List V}{K:VK}(i:SpecN T P f ys a)(g:iQ T σ.ar ys xs)(c:sO false false xs ys .bot=true)(e:σ.bx d=none)
 (h:K (.box d 0) (appR (aV σ (bK ys xs)) (appR (aX σ (bD ys xs)) [.b d a]))):kY T P .free σ d f xs K:=by
 refine⟨.inr (.inr (.inr ⟨rfl,ys,a,g,c,i,e,h⟩))⟩
def fA7{a:List ResultVar}{r:V}{bs:List (List V)}(h:aH3 T σ a λxs=>match xs with
 | [x] =>xM T σ.ar (iP bs 0) (([x],[r])::eU σ.bx bs (iP bs 0))/\aT2 σ.bx (([x],[r])::eU σ.bx bs (iP bs 0)) (iP bs 0)=true/\(∀a,r≠ .tup a)
 |xs=>∃ys,r= .tup ys/\xM T σ.ar (iP bs 0) ((xs,ys)::eU σ.bx bs (iP bs 0))/\aT2 σ.bx ((xs,ys)::eU σ.bx bs (iP bs 0)) (iP bs 0)=true):retB T σ a r bs:=⟨h⟩
def cA7{a:List ResultVar}{r:V}{j:Nat}{e:TypeId}{l:List V}(h:aH3 T σ a λxs=>match xs with
 | [x] =>iQ T σ.ar [r, .own e l] [x, .arr j 0]/\iR [x, .arr j 0] [r, .own e l] =true/\aH7 r=true/\(∀a,r≠ .tup a)
 |xs=>∃ys,r= .tup ys/\iQ T σ.ar (appR ys [.own e l]) (appR xs [.arr j 0])/\iR (appR xs [.arr j 0]) (appR ys [.own e l])=true):dC6 T σ a r j e l:=⟨h⟩
def ret_i{a:List ResultVar}{r:V}(h:aH3 T σ a λxs=>match xs with
 | [x] =>iQ T σ.ar [r] [x]/\iR [x] [r] =true/\(∀a,r≠ .tup a)
 |xs=>∃ys,r= .tup ys/\iQ T σ.ar ys xs/\iR xs ys=true):dF3 T σ a r:=by refine⟨.inl ?_⟩;exact h
def aP{ar:Nat->Option AE}{u a:Value}(h:a=u):iQ T ar [.lit u] [.lit a]/\iR [.lit a] [.lit u] =true/\(∀b,(V.lit u)≠ .tup b):=⟨⟨h,trivial⟩,rfl,λ_ h=>Ag⟩
def aG{ar:Nat->Option AE}{k:IntKind}{n a:Int}(h:a=n):iQ T ar [.lit (.int k n)] [.lit (.int k a)]/\iR [.lit (.int k a)] [.lit (.int k n)] =true/\(∀b,(V.lit (.int k n))≠ .tup b):=aP (by rw[h])
def aK{ar:Nat->Option AE}{n a:Bool}(h:a=n):iQ T ar [.lit (.bool n)] [.lit (.bool a)]/\iR [.lit (.bool a)] [.lit (.bool n)] =true/\(∀b,(V.lit (.bool n))≠ .tup b):=aP (by rw[h])
def eY0{en:AE}{g:Nat}{K:Prop}(a:en.gen=g)(b:en.kind≠ .dead)(c:K):need (en.gen=g/\en.kind≠ .dead) K:=fU ⟨a,b⟩ c
def iH{en:AE}{g e a size:Nat}{xs:List V}{K:Prop}(b:en.gen=g)(c:en.kind= .own\/en.kind= .ap)(d:en.ty=e)(j:a<=10000)(i:∀x∈xs,x.cells.length=size)(f:en.l.length+xs.length<=1000000000)(k:K):
 need (en.gen=g/\(en.kind= .own\/en.kind= .ap)/\en.ty=e/\(en.l.length+xs.length)*a<=140737488355328/\en.l.length+xs.length<=140737488355328/\∀x∈xs,x.cells.length=size) K:=
 fU ⟨b,c,d,PD (Sv f j) Ai,Aa,i⟩ k
def gX{a size:Nat}{xs:List V}{K:Prop}(d:a<=10000)(c:∀x∈xs,x.cells.length=size)(b:xs.length<=1000000000)(e:K):
 need (xs.length*a<=140737488355328/\xs.length<=140737488355328/\∀x∈xs,x.cells.length=size) K:=
 fU ⟨PD (Sv b d) Ai,Aa,c⟩ e
def dA{x:V}{n:Nat}(h:x.cells.length=n):∀y∈[x],y.cells.length=n:=λy a=>by cases Py.1 a;exact h
def bytes_i{xs:List V}{K:List Int->Prop}(ns:List Int)(h:xs=ns.map (λn=>V.lit (.int .u8 n)))(a:K ns):aZ0 xs K:=by refine⟨?_⟩;exact⟨ns,h,a⟩
def Le.trans{a b c:St}(d:Le T a b)(e:Le T b c):Le T a c:=by
 grind [Le]
def eV6{es:List V}{s:Value}{z:V}{K:V->Prop}{v:V}(h:(jG s es).getD z=v)(k:K v):eG6 es s z K:=⟨by rw[h];exact k⟩
def eS1{f:Operand}{g:FuncId}{b:List V}{ps wr:List Nat}{x y:aA2}{Q:Exit->St->Prop}(a:List (List V))(s:aB0 T P g b a)(r:∀d∈a,d.length=ps.length){A:Type}(st:A->St)(inv:Nat->A->Prop)(j:A)
 (m:Le T σ (st j))(n:inv 0 j)(q:(st j).ev f= .fn g b)(h:∀k p d,inv k p->a[k]? =some d->x ⟨cM2 ps d (st p).env,(st p).bx,(st p).ar⟩ λe l=>match e with
  | .normal=>y l λe c=>match e with
    | .normal=>∃p',Le T (sJ wr c) (st p')/\inv (k+1) p'
    | .ret=>Q .ret (sJ wr c)
    | .exit i=>Q (.exit i) (sJ wr c)
    |_=>False
  |_=>False)(o:∀p,inv a.length p->Q .normal (st p)):aO0 T P f g b ps wr x y σ Q:=⟨a,s,r,A,st,inv,⟨j,m,n,q⟩,h,o⟩
def fB{k:Nat}{en:AE}(h:σ.ar k=some en)(c:en.kind= .own\/en.kind= .ap):Le T σ (σ.apps [.a k ⟨en.gen, .frz,en.ty,en.l⟩]):=by
 unfold Le;intro Φ a w G inv;obtain⟨O',b,_,_⟩:=inv.freeze h c;exact⟨_,b⟩
def aL5(k g:Nat)(l:List V)(x:V):V:=match x with
 | .arr j g'=>cond (Nat.beq j k) (cond (Nat.beq g' g) (.sl l) .bot) (.arr j g')
 |x=>x
def eE7(k g:Nat)(l:List V)(x:V):V:=match x with
 | .arr j g'=>cond (Nat.beq j k) (cond (Nat.beq g' g) (.sl l) .bot) (.arr j g')
 | .agg xs=> .agg (mapR (aL5 k g l) xs)
 |x=>x
def fD0(k:Nat)(en:AE)(σ:St):St:=⟨λs=>eE7 k en.gen en.l (σ.env s),σ.bx,upd σ.ar k (some ⟨en.gen, .frz,en.ty,en.l⟩)⟩
theorem cM9{w:World}{G:Gh}{k g:Nat}{l:List V}{v:Value}{x:V}(f:Rv w G (G.av k g) (.sl l))(h:Rv w G v x):Rv w G v (aL5 k g l x):=by
 unfold aL5;split;rename_i j a;cases e:Nat.beq j k with
 |false=>exact h
 |true=>
  have c:j=k:=Qp e;subst c;cases d:Nat.beq a g with
  |false=>exact .bot _
  |true=>
   have b:a=g:=Qp d;subst b;rw[h.oQ];exact f
 exact h
theorem cJ0{p:Nat->Prop}{q:Nat->Nat->Prop}{k g:Nat}{l:List V}{x:V}(a:bM l)(h:x.ok p q):(aL5 k g l x).ok p q:=by
 unfold aL5;grind [Nat.beq,V.ok]
def eJ7{w:World}{G:Gh}{k g:Nat}{l:List V}{v:Value}{x:V}(b:Rv w G (G.av k g) (.sl l))(h:Rv w G v x):Rv w G v (eE7 k g l x):=by
 cases x with
 |agg xs=>
  show Rv w G v (.agg (mapR (aL5 k g l) xs));rw[dU];cases h with
  |agg cs _ a d n=>
   refine .agg cs _ (by simp[a]) d (λi c y m e=>?_);rw[PK]at e;grind [cM9]
 |arr j f=>exact cM9 b h
 |_=>exact h
def eG5{p:Nat->Prop}{q:Nat->Nat->Prop}{k g:Nat}{l:List V}{x:V}(a:bM l)(h:x.ok p q):(eE7 k g l x).ok p q:=by
 cases x with
 |agg xs=>
  show(V.agg (mapR (aL5 k g l) xs)).ok p q;grind [dU,aH,cJ0,V.ok]
 |arr j b=>exact cJ0 a h
 |_=>exact h
def aZ8(k:Nat){en:AE}(h:σ.ar k=some en)(d:en.kind= .own\/en.kind= .ap):Le T σ (fD0 k en σ):=by
 unfold Le;intro Φ a w G inv;obtain⟨O',b,_,_⟩:=inv.freeze h d;have e:=inv.wfA k en h;have c:Rv w {G with O:=O'} (G.av k en.gen) (.sl en.l):=b.arr k ⟨en.gen, .frz,en.ty,en.l⟩ (upd_same _ _ _);refine⟨_,{b with env:=λs=>?_,wfE:=λs=>?_}⟩;exact eJ7 c (b.env s);exact eG5 e (b.wfE s)
def bB4{K:St->Prop}{a:St}(h:Le T σ a)(b:K a):cR5 T σ K:=⟨⟨a,h,b⟩⟩
end
section
abbrev ItQ:=Exit->Option Nat->St->Prop
abbrev ItC:=Option Nat->St->ItQ->Prop
def yieldOf(env:Nat->V)(o:Oper):Option (Nat×List Operand):=
 match o.op with
 | .call ⟨.value (.tmp t),⟨as⟩,_⟩=>match env t with| .lit (.func (.yield l) ⟨[]⟩ ⟨[]⟩)=>some (l,as)|_=>none
 |_=>none
structure dC9(items:List (List V))(l l':Nat)(k:Nat)(xs:List V)(A B:Prop):Prop where
 out:l'=l/\items[k]? =some xs/\bM xs/\A/\B
abbrev ItO:=Option Nat->(Nat->V)->(Nat->Option (List V))->(Nat->Option AE)->(Option Nat->St->Prop)->Prop
def cV6(T:Tab)(P:Program)(n:Nat)(items:List (List V))(yl:Nat)(ops:List Oper)(o:Oper)(ih:ItO):ItO:=λk env bx ar K=>
 match yieldOf env o with
 |some (yl',as)=>match o.guard,k,o.dst with
  |none,some k,some d=>cond (Nat.blt d n) (dC9 items yl yl' k (mapR (St.ev ⟨env,bx,ar⟩) as) (ih (some (k+1)) (upd env d (B true)) bx ar K) (ih none (upd env d (B false)) bx ar K)) False
  |some (j,want),some k,some d=>match tV ops j with
   |some s=>match env s,want with
    | .lit (.bool true),true=>cond (Nat.blt d n) (dC9 items yl yl' k (mapR (St.ev ⟨env,bx,ar⟩) as) (ih (some (k+1)) (upd env d (B true)) bx ar K) (ih none (upd env d (B false)) bx ar K)) False
    | .lit (.bool false),false=>cond (Nat.blt d n) (dC9 items yl yl' k (mapR (St.ev ⟨env,bx,ar⟩) as) (ih (some (k+1)) (upd env d (B true)) bx ar K) (ih none (upd env d (B false)) bx ar K)) False
    |_,_=>False
   |none=>False
  |_,_,_=>False
 |none=>bH0 T P .free n ops o (λenv bx ar _=>ih k env bx ar K) env bx ar (λ_=>True)
def cE1(T:Tab)(P:Program)(n:Nat)(items:List (List V))(yl:Nat)(ops l:List Oper):ItO:=
 List.rec (motive:=λ_=>ItO) (λk env bx ar K=>K k ⟨env,bx,ar⟩) (λo _ ih=>cV6 T P n items yl ops o ih) l
structure eF8(x y:ItC)(k:Option Nat)(σ:St)(Q:ItQ):Prop where
 out:x k σ λe k' σ'=>match e with
  | .normal=>y k' σ' Q
  |e=>Q e k' σ'
structure bX4(T:Tab)(x:ItC)(k:Option Nat)(σ:St)(Q:ItQ):Prop where
 out:∃(A:Type) (st:A->St) (kk:A->Option Nat) (inv:A->Prop) (m:A->Nat),(∃p,Le T σ (st p)/\inv p/\kk p=k)/\∀p,inv p->x (kk p) (st p) λe k' σ'=>match e with
  | .normal=>∃p',Le T σ' (st p')/\inv p'/\kk p'=k'/\m p'<m p
  |e=>Q e k' σ'
def aI3(T:Tab)(P:Program)(n:Nat)(items:List (List V))(yl:Nat)(c:Code):ItC:=
 Code.rec (motive:=λ_=>ItC)
  (λk σ Q=>Q .normal k σ)
  (λ_ ops draw k σ Q=>match σ with|⟨env,bx,ar⟩=>match draw with
   |true=>aC9 T env ops.toList (λhv=>aY0 T P (.drawn hv) n ops.toList ops.toList env bx ar (Q .normal k)) False
   |false=>cE1 T P n items yl ops.toList ops.toList k env bx ar (Q .normal))
  (λ_ _ iha ihb=>eF8 iha ihb)
  (λc _ _ iht ihe k σ Q=>match σ.ev c with
   | .lit (.bool b)=>branch b (iht k σ Q) (ihe k σ Q)
   |_=>False)
  (λid _ ih k σ Q=>ih k σ λe k' σ'=>match e with
   | .exit i=>cond (Nat.beq i id) (Q .normal k' σ') (Q (.exit i) k' σ')
   |e=>Q e k' σ')
  (λ_ ih=>bX4 T ih)
  (λ_ _ _ _ _ _ _ _ _=>False)
  (λid k σ Q=>Q (.exit id) k σ)
  (λ_ ih k σ Q=>ih k σ λe k' σ'=>match e with
   | .goto _=>False
   |e=>Q e k' σ')
  (λ_ k σ Q=>Q .normal k σ)
  (λ_ _ _ _=>False)
  (λk σ Q=>Q .ret k σ)
  (λ_ _ _ _=>False) c
def dZ2(n:Nat)(k:Option Nat):Prop:=match k with|some k=>k=n|none=>True
def itVC(T:Tab)(P:Program)(fn:Func)(caps:List V)(items:List (List V)):Prop:=
 match fn.body,fn.results.toList with
 |some c,[] =>∀l:Nat,aI3 T P fn.ntmps items l c (some 0) (uD (.lit (.func (.yield l) ⟨[]⟩ ⟨[]⟩)::caps)) λe k _=>match e with
  | .normal=>dZ2 items.length k
  | .ret=>dZ2 items.length k
  |_=>False
 |_,_=>False
variable{T:Tab}{P:Program}{Φ:Fr}{σ:St}{a:Act}{w w':World}{G G':Gh}{o:Oper}
def Inv.move(inv:Inv T Φ σ a w G)(g:w.heap.size<=w'.heap.size)(d:∀b,G.O b≠ .ext->w'.heap[b]? =w.heap[b]?)(m:w'.os=w.os)(q:w'.tape=w.tape)(r:w'.output=w.output):Inv T (Φ.at w' G) σ a w' G:=by
 have c:Inv T {(Φ.at w G)with given:=λb=>G.O b≠ .fz} σ a w G:=by
  have i:=inv.up;refine {nd:=i.nd,kp:=i.kp,sz:=i.sz,env:=i.env,wfE:=i.wfE,box:=i.box,wfB:=i.wfB,arr:=i.arr,wfA:=i.wfA,tag:=i.tag,mineB:=λb j h=> .inr (by show G.O b≠ .fz;rw[h];simp),mineA:=λb k h=> .inr (by show G.O b≠ .fz;rw[h];simp),fzm:=λb h=> .inl h,F0:=i.F0,frame:=λb _ _=>rfl,size:=i.size,os:=i.os,tape:=i.tape,output:=i.output,args:=i.args,lay:=⟨i.lay.1,λb d=>⟨(i.lay.2 b d).1,λh=>h d⟩⟩,argb:=i.argb}
 have f:=c.change (w':=w') (G':=G) rfl ⟨λ_ h=>h,λb h=>d b Ed⟩ (λ_ _=>rfl) (λ_ _ _=>rfl) (λ_ h=>h) (λ_ _ h=>h)
  (λi cs hi=> .inl ⟨hi,(c.box i cs hi).choose_spec.choose_spec.2.2,d _ (by rw[(c.box i cs hi).choose_spec.choose_spec.2.2];simp)⟩)
  (λk en l=> .inl ⟨l,λb e=>⟨e,d b (by rw[e];simp)⟩⟩)
  (λb h=>QW (c.tag b h) g) (λ_=> .inl rfl)
  (λb=>by
   by_cases h:G.O b= .fz;exact .inl (d b Ed)
   exact .inr (.inr h)) g m q r
 exact f.up
structure pU(T:Tab)(n:Nat)(w:World)(JX:Option Nat->World->Gh->Prop)(k:Option Nat)(σ:St)(a:Act)(W:World)(Φ:Fr)(G' Gi:Gh):Prop where
 nn:Φ.n=n
 ds:Φ.ds=[]
 kp:Φ.keep=λ_=>none
 jx:JX k Φ.w0 G'
 tag:∀b,G'.O b≠ .ext->b<Φ.w0.heap.size
 F0:∀b,Φ.F0 b->G'.O b= .fz\/(w.heap.size<=b/\G'.O b= .ext)
 given:∀b,Φ.given b->w.heap.size<=b/\G'.O b= .ext
 size:w.heap.size<=Φ.w0.heap.size
 inv:Inv T Φ σ a W Gi
section
variable{n:Nat}{JX:Option Nat->World->Gh->Prop}{k:Option Nat}{Gi:Gh}{w0 W:World}
def pU.own(h:pU T n w0 JX k σ a W Φ G' Gi){b:Nat}(m:Gi.O b≠ .ext):(Gi.O b= .fz/\G'.O b= .fz)\/(w0.heap.size<=b/\b<W.heap.size/\G'.O b= .ext):=by
 have c:Φ.mine b->w0.heap.size<=b/\G'.O b= .ext:=λc=>by
  rcases c with c|c;refine⟨PD h.size c,?_⟩;cases d:G'.O b with
  |ext=>rfl
  |_=>have:=h.tag b (by rw[d];simp);omega
  exact h.given b c
 have e:=h.inv.tag b m;cases d:Gi.O b with
 |ext=>exact absurd d m
 |bx i=>
  obtain⟨j,l⟩:=c (h.inv.mineB b i d);simp_all
 |ar i=>
  obtain⟨j,l⟩:=c (h.inv.mineA b i d);simp_all
 |fz=>
  rcases h.inv.fzm b d with g|g;rcases h.F0 b g with f|f;exact .inl ⟨rfl,f⟩;exact .inr ⟨f.1,e,f.2⟩;obtain⟨j,l⟩:=c g;exact .inr ⟨j,e,l⟩
def Jcl(w:World)(JX:Option Nat->World->Gh->Prop):Prop:=∀k W W' G',JX k W G'->W.heap.size<=W'.heap.size->(∀b,b<W.heap.size->(G'.O b≠ .ext\/b<w.heap.size)->W'.heap[b]? =W.heap[b]?)->W'.os=W.os->W'.tape=W.tape->W'.output=W.output->JX k W' G'
def Jfz(w:World)(JX:Option Nat->World->Gh->Prop):Prop:=∀k W G' G'',JX (some k) W G'->G''.β=G'.β->G''.av=G'.av->(∀b,G''.O b=G'.O b\/(w.heap.size<=b/\b<W.heap.size/\G'.O b= .ext/\G''.O b= .fz))->JX (some k) W G''
def dA0(P:Program)(w:World)(items:List (List V))(l:Nat)(JX:Option Nat->World->Gh->Prop):Prop:=∀k W G' vs it,JX (some k) W G'->items[k]? =some it->vs.size=it.length->(∀(j:Nat) v y,vs[j]? =some v->it[j]? =some y->y.pure/\Rv W G' v y)->
 YieldAt (FW none) 0 P l vs W λe W'=>(e= .returned (.bool true)/\∃G2,JX (some (k+1)) W' G2/\xN w W W' G' G2)\/(e= .returned (.bool false)/\∃G2,JX none W' G2/\xN w W W' G' G2)
def pU.now(h:pU T n w0 JX k σ a W Φ G' Gi)(d:Jcl w0 JX):JX k W G':=
 d k _ _ _ h.jx h.inv.size (λb e c=>h.inv.frame b e (λf=>by
  obtain⟨i,g⟩:=h.given b f;rcases c with c|c;exact c g
  omega)) h.inv.os h.inv.tape h.inv.output
def pU.next(h:pU T n w0 JX k σ a W Φ G' Gi){b:St}{d:Act}{c:World}{Gi':Gh}(inv:Inv T Φ b d c Gi'):pU T n w0 JX k b d c Φ G' Gi':={h with inv:=inv}
def cS1{t l:Nat}{as:List Operand}{h:Array TypeId}{d:FuncId}{tmps:Array Value}{b body:Code}(e:o.op= .call ⟨.value (.tmp t),⟨as⟩,h⟩)(f:a.tmps.getD t undef= .func (.yield l) #[] #[])
 (g:(Instr.yield l (as.map a.eval).toArray).run P w= .ok (.round l d tmps b body) w):(execOp a.eval o).run P w= .ok (.round l d tmps b body) w:=by
 have c:a.eval (.tmp t)= .func (.yield l) #[] #[] :=f;simp[execOp,e,resolve,c,Deferred.ofValue,invoke,g]
def eH0(hJ:Jcl w0 JX)(hF:Jfz w0 JX){r:List (List V)}{l:Nat}(hY:dA0 P w0 r l JX){D d t:Nat}{as:List Operand}{ts:Array TypeId}(Y:o.op= .call ⟨.value (.tmp t),⟨as⟩,ts⟩)(hd:o.dst=some d)(R:d<n)(hg:σ.env t= .lit (.func (.yield l) ⟨[]⟩ ⟨[]⟩))
 (h:pU T n w0 JX (some D) σ a W Φ G' Gi)(S:r[D]? =some (as.map σ.ev))(hp:bM (as.map σ.ev)){next:Act->World->Prop}{Q:Exit->Act->World->Prop}
 (hn:∀(b:Bool) X m Φ' g,pU T n w0 JX (match b with|true=>some (D+1)|false=>none) (σ.set d (B b)) X m Φ' g Gi->next X m):o.wpIn (FW none) 0 P a W next Q:=by
 have U:a.tmps.getD t undef= .func (.yield l) #[] #[] :=by
  have:=h.inv.env t;rw[hg]at this;exact this.bH
 let g:Gh:={G' with O:=λb=>match G'.O b,Gi.O b with| .ext, .fz=> .fz|x,_=>x}
 have M:∀b,g.O b=G'.O b\/(w0.heap.size<=b/\b<W.heap.size/\G'.O b= .ext/\g.O b= .fz):=λb=>by
  cases L:G'.O b with
  |ext=>
   cases f:Gi.O b with
   |fz=>
    rcases h.own (b:=b) (by rw[f];simp)with q|q;rw[q.2]at L;cases L;grind
   |_=>exact .inl (by simp[g,L,f])
  |_=>exact .inl (by simp[g,L])
 have z:∀b,Gi.O b= .fz->g.O b= .fz:=λb hb=>by
  rcases h.own (b:=b) Aw with q|q;simp[g,q.2];simp[g,q.2.2,hb]
 have hj:=hF D W G' g (h.now hJ) rfl rfl M
 obtain⟨fn,tmps,Z,body,I,hR⟩:=hY D W g (as.map a.eval).toArray _ hj S Af (λj v y hv I=>by
  have F:j<as.length:=by
   have:=(Pg.1 I).1;simpa using this
  have e1:v=a.eval as[j] :=by simpa [F]using hv.symm
  have e2:y=σ.ev as[j] :=by simpa [F]using I.symm
  have A:y.pure:=aH.1 hp y (Pn I);refine⟨A,?_⟩;rw[e1];rw[e2]at A⊢;exact(h.inv.ev as[j]).1.aW ⟨z,λ_ _=>rfl⟩ A)
 refine⟨λ_ _=>trivial,?_⟩;rw[Oper.semAt_eq _ _ _ (λc=>by rw[Y];exact λh=>by cases h),cS1 Y U I,Oper.uponIn_round];refine⟨λhh=>Et,hR.mono ?_⟩
 have E:∀(b:Bool) (m:World) (s:Gh),JX (match b with|true=>some (D+1)|false=>none) m s->xN w0 W m g s->next (a.put o.dst (.bool b)) m:=by
  intro b m s H i
  have C:∀b,Gi.O b≠ .ext->m.heap[b]? =W.heap[b]? :=λb hb=>by
   by_cases u:Gi.O b= .fz;exact i.keep.heap b (z b u);rcases h.own hb with q|q;exact absurd q.1 u;refine(i.own b q.1 q.2.1 ?_).1;cases f:Gi.O b with
   |fz=>exact absurd f u
   |_=>simp[g,q.2.2,f]
  have J:=h.inv.move i.size C i.os i.tape i.output;have K:=J.bA3 (d:=d) (v':= .bool b) (v:=B b) ⟨by show d<Φ.n;rw[h.nn];exact R,by show Φ.keep d=none;rw[h.kp]⟩ (.lit _ rfl) (by simp only[B,V.ok]);rw[hd];refine hn b _ m (Φ.at m Gi) s ⟨h.nn,h.ds,h.kp,H,i.tag,λb hb=>?_,λb hb=>?_,PD h.size (PD h.inv.size i.size),K⟩;exact .inl (i.keep.fz b (z b hb));rcases h.own hb.2 with q|q;exact absurd q.1 hb.1;refine⟨q.1,(i.own b q.1 q.2.1 ?_).2⟩;have N:Gi.O b≠ .fz:=hb.1;cases f:Gi.O b with
  |fz=>exact absurd f N
  |_=>simp[g,q.2.2,f]
 rintro e m (⟨rfl,s,H,i⟩|⟨rfl,s,H,i⟩)
 ·exact E true m s H i
 ·exact E false m s H i
def eE2(T:Tab)(n:Nat)(w0:World)(JX:Option Nat->World->Gh->Prop)(Q:ItQ)(e:Exit)(a:Act)(w:World):Prop:=∃k σ Φ G' Gi,Q e k σ/\pU T n w0 JX k σ a w Φ G' Gi
def wanted_of(inv:Inv T Φ σ a w G){ops:List Oper}{b:Array Oper}(q:b.toList=ops){j s:Nat}{c:Bool}(hg:o.guard=some (j,c))(m:tV ops j=some s)(l:σ.env s= .lit (.bool c)):Region.wanted o (yielded b a.tmps)=true:=by
 have d:(b[j]?).bind (·.dst)=some s:=by
  grind [uN,tV]
 have g:Region.wanted o (yielded b a.tmps)=(yielded b a.tmps j==some c):=Dw;have e:=inv.env s;rw[l]at e;have hv:=e.bH;have f:a.tmps[s]? =some (.bool c):=KJ;have i:yielded b a.tmps j=some c:=by simp[yielded,d,f]
 rw[g,i];simp
def eS2(Y:bP T P)(U:Jcl w0 JX)(S:Jfz w0 JX){c:List (List V)}{l:Nat}(Z:dA0 P w0 c l JX){ops:List Oper}{f:Array Oper}(hA:f.toList=ops){K:Option Nat->St->Prop}{Q:Exit->Act->World->Prop}(X:∀k e i w' Φ G' Gi,K k e->pU T n w0 JX k e i w' Φ G' Gi->Q .normal i w'):
 ∀(r:List Oper) (k:Option Nat) (σ:St) (a:Act) (W:World) (Φ:Fr) (G' Gi:Gh),pU T n w0 JX k σ a W Φ G' Gi->cE1 T P n c l ops r k σ.env σ.bx σ.ar K->wpListIn (FW none) 0 P f Q r a W:=by
 intro r;induction r with
 |nil=>intro k σ a W Φ G' Gi h m;exact X k σ a W Φ G' Gi m h
 |cons o r y=>
  intro k σ a W Φ G' Gi h m;have hk':cV6 T P n c l ops o (cE1 T P n c l ops r) k σ.env σ.bx σ.ar K:=m;unfold cV6 at hk';split at hk';rename_i I as u
  have fin:∀kk d,o.dst=some d->k=some kk->Region.wanted o (yielded f a.tmps)=true->cond (Nat.blt d n) (dC9 c l I kk (mapR (St.ev ⟨σ.env,σ.bx,σ.ar⟩) as) (cE1 T P n c l ops r (some (kk+1)) (upd σ.env d (B true)) σ.bx σ.ar K) (cE1 T P n c l ops r none (upd σ.env d (B false)) σ.bx σ.ar K)) False->wpListIn (FW none) 0 P f Q (o::r) a W:=by
   intro kk d hd C H hz;subst C;obtain⟨z,A⟩:=aT hz;obtain⟨q0,M,N,q3,q4⟩:=A.out;subst q0;rw[dU]at M N;unfold yieldOf at u;split at u;rename_i t R ts ho;split at u;rename_i hv;cases u;unfold wpListIn;rw[Pm H];refine eH0 U S Z ho hd (blt z) hv h M N ?_;intro b i J x q L;cases b with
   |true=>exact y _ (σ.set d (B true)) i J x q Gi L q3
   |false=>exact y _ (σ.set d (B false)) i J x q Gi L q4
   cases u;cases u
  split at hk';rename_i kk d hg hd;exact fin kk d hd rfl Dw hk';rename_i j O kk d hg hd;split at hk';rename_i s hs;split at hk';rename_i he;exact OG;rename_i he;exact OG;exact hk'.elim;exact hk'.elim;exact hk'.elim;have E:=aX6 (σ:=σ) hk';have D:∀d,o.dst=some d->Φ.keep d=none:=λd _=>by rw[h.kp]
  have v:Step T P .free Φ.n ops o σ λe=>cE1 T P n c l ops r k e.env e.bx e.ar K:=by rw[h.nn];exact E
  have:=bZ3 Y h.inv hA D v (Q:=Q) none;unfold wpListIn;split;rename_i F;rw[Pm F]at this;exact Oper.wpIn_mono (λi w' ⟨e,q,m,g⟩=>y k e i w' Φ G' q (h.next g) m) this;rename_i F;rw[Ph F]at this;obtain⟨q,e,m,g⟩:=this;exact⟨λ_ _=>trivial,y k e _ W Φ G' q (h.next g) m⟩
def eQ3(hT:bP T P)(hm:P.follows .mixedOrders=true)(hJ:Jcl w0 JX)(hF:Jfz w0 JX){g:List (List V)}{l:Nat}(hY:dA0 P w0 g l JX)(c:Code):∀(k:Option Nat) (σ:St) (a:Act) (W:World) (Φ:Fr) (G' Gi:Gh) (Q:ItQ),pU T n w0 JX k σ a W Φ G' Gi->aI3 T P n g l c k σ Q->c.wpIn (FW none) 0 P (eE2 T n w0 JX Q) a W:=by
 induction c with
 |skip=>intro k σ a W Φ G' Gi Q h r;exact wpIn_skip ⟨k,σ,Φ,G',Gi,r,h⟩
 |region id ops U=>
  intro k σ a W Φ G' Gi Q h r;cases U with
  |false=>
   have z:cE1 T P n g l ops.toList ops.toList k σ.env σ.bx σ.ar (Q .normal):=by cases σ;exact r
   exact wpIn_region_list (eS2 hT hJ hF hY rfl (λk j K w' Φ G' Gi hk hi=>⟨k,j,Φ,G',Gi,hk,hi⟩) ops.toList k σ a W Φ G' Gi h z)
  |true=>
   have z:aC9 T σ.env ops.toList (λhv=>aY0 T P (.drawn hv) n ops.toList ops.toList σ.env σ.bx σ.ar (Q .normal k)) False:=by cases σ;exact r
   replace z:=z.out;obtain⟨cl,hv,h0,h1,h2⟩:=z.resolve_right (λh=>h);have hr:=aS6 ops.toList σ h2;rw[<-h.nn]at hr;exact bC4 hT none hm rfl (λo _ d _=>by rw[h.kp]) h1 (dC3 h.inv.wfE h0) (λj K w' v hk Z=>⟨k,j,Φ,G',v,hk,h.next Z⟩) id h.inv hr
 |seq x y I J=>
  intro k σ a W Φ G' Gi Q h r;have z:eF8 (aI3 T P n g l x) (aI3 T P n g l y) k σ Q:=r;refine wpIn_seq (QV (I k σ a W Φ G' Gi _ h z.out) ?_);rintro e K w' ⟨D,j,u,v,E,t,hi⟩;cases e with
  |normal=>exact J D j K w' u v E Q hi t
  |_=>exact⟨D,j,u,v,E,t,hi⟩
 |cond c x y I J=>
  intro k σ a W Φ G' Gi Q h r
  have z:(match σ.ev c with
   | .lit (.bool b)=>branch b (aI3 T P n g l x k σ Q) (aI3 T P n g l y k σ Q)
   |_=>False):=r
  have he:=(h.inv.ev c).1;split at z;rename_i b C;rw[C]at he;cases b with
  |true=>exact wpIn_cond_true he.bH (I k σ a W Φ G' Gi Q h z)
  |false=>exact wpIn_cond_false he.bH (J k σ a W Φ G' Gi Q h z)
  exact z.elim
 |block id c Y=>
  intro k σ a W Φ G' Gi Q h r;refine wpIn_block (QV (Y k σ a W Φ G' Gi _ h r) ?_);rintro e K w' ⟨D,j,u,v,E,t,hi⟩;cases e with
  |exit i=>
   have F:cond (Nat.beq i id) (Q .normal D j) (Q (.exit i) D j):=t;show Exit.inBlock id (eE2 T n w0 JX Q) (.exit i) K w';by_cases B:i=id;subst B;have C:Nat.beq i i=true:=SG i;rw[C]at F;simp only[Exit.inBlock,QM];exact⟨D,j,u,v,E,F,hi⟩;have C:Nat.beq i id=false:=by rw[<-QS,QJ];exact B
   rw[C]at F;simp only[Exit.inBlock,Ph B];exact⟨D,j,u,v,E,F,hi⟩
  |_=>exact⟨D,j,u,v,E,t,hi⟩
 |loop c Y=>
  intro k σ a W Φ G' Gi Q h r;have z:bX4 T (aI3 T P n g l c) k σ Q:=r;obtain⟨A,st,kk,inv,m,⟨p0,X,ab,ac⟩,H⟩:=z.out
  have M:∀ {k:Option Nat} {R S:St} {a:Act} {W:World} {Φ:Fr} {G' Gi:Gh},Le T R S->pU T n w0 JX k R a W Φ G' Gi->∃Φ Gi,pU T n w0 JX k S a W Φ G' Gi:=by
   intro k R S a W Φ G' Gi N h;obtain⟨v,aa⟩:=N.out h.inv.up;have L:=λb=>h.own (b:=b);refine⟨Φ.at W Gi,v,?_⟩
   exact⟨h.nn,h.ds,h.kp,h.now hJ,λb C=>QW (h.tag b C) h.inv.size,λb C=>by
    rcases L b (by rw[show Gi.O b= .fz from C];simp)with q|q;exact .inl q.2;exact .inr ⟨q.1,q.2.2⟩,λb C=>by
    rcases L b C.2 with q|q;exact absurd q.1 C.1
    exact⟨q.1,q.2.2⟩,PD h.size h.inv.size,aa⟩
  obtain⟨ag,G0,h0⟩:=M X h;subst ac;refine wpIn_loop_ghost (λn' a w=>∃p Φ G' Gi,m p=n'/\inv p/\pU T n w0 JX (kk p) (st p) a w Φ G' Gi) (m p0) ⟨p0,ag,G',G0,rfl,ab,h0⟩ ?_;rintro n' K w' ⟨p,ah,G1,v,rfl,hi,h1⟩;refine QV (Y (kk p) (st p) K w' ah G1 v _ h1 (H p hi)) ?_;rintro e a2 w2 ⟨D,j,u,E,G4,t,B⟩;cases e with
  |normal=>
   obtain⟨p',N,af,ad,ae⟩:=t;subst ad;obtain⟨ai,G5,h5⟩:=M N B;exact⟨m p',ae,p',ai,E,G5,rfl,af,h5⟩
  |_=>exact⟨D,j,u,E,G4,t,B⟩
 |rangeFunc f ps x y I J=>intro k σ a W Φ G' Gi Q h r;exact(r:False).elim
 |exit id=>intro k σ a W Φ G' Gi Q h r;exact wpIn_exit ⟨k,σ,Φ,G',Gi,r,h⟩
 |scope c Y=>
  intro k σ a W Φ G' Gi Q h r;refine bE2 (QV (Y k σ a W Φ G' Gi _ h r) ?_);rintro e K w' ⟨D,j,u,v,E,t,hi⟩;cases e with
  |goto l=>exact t.elim
  |_=>exact⟨D,j,u,v,E,t,hi⟩
 |label l=>intro k σ a W Φ G' Gi Q h r;exact wpIn_label ⟨k,σ,Φ,G',Gi,r,h⟩
 |goto l=>intro k σ a W Φ G' Gi Q h r;exact(r:False).elim
 |ret=>intro k σ a W Φ G' Gi Q h r;exact wpIn_ret ⟨k,σ,Φ,G',Gi,r,h⟩
 |refuse s=>intro k σ a W Φ G' Gi Q h r;exact(r:False).elim
end
def dZ5(hT:bP T P)(hm:P.follows .mixedOrders=true){f:FuncId}{q:Func}(hf:P.funcs[f]? =some q)(hc:callable P f=true){d:List V}{g:List (List V)}(hn:d.length+1<=q.ntmps)(hl:allR (λy=> !linear y) d=true)(h:itVC T P q d g):aB0 T P f d g:=by
 refine⟨hc,λw G m l Q U B N J X hJ hX aa hY h0=>?_⟩;unfold itVC at h;split at h;rename_i c r ad;have h:=h l;let JX:Option Nat->World->Gh->Prop:=λk W G=>match k with|some k=>J k W G|none=>X W G
 have K:Jcl w JX:=λk W W' G'=>by
  grind
 let Gi:Gh:={G with O:=λb=>match G.O b with| .fz=> .fz|_=> .ext}
 have C:∀b,Gi.O b= .fz↔G.O b= .fz:=λb=>by
  grind
 have ab:Keep w w G Gi:=⟨λb r=>(C b).2 r,λ_ _=>rfl⟩;have ac:T.lay w (λb=>Gi.O b= .fz):=T.lay_mono (λb r=>⟨(C b).2 r,rfl⟩) N;let Φ:Fr:=⟨w,λ_=>False,λb=>Gi.O b= .fz,q.ntmps,λ_=>none,λ_=>none,[],λ_=>none⟩;have S:(#[Value.func (.yield l) #[] #[]] ++m).size=d.length+1:=by simp[Q];omega
 have R:∀(j:Nat) y,d[j]? =some y->linear y=false:=λj y hy=>by
  grind [dY,Pn]
 have M:∀(s:Nat) y,(V.lit (Value.func (.yield l) ⟨[]⟩ ⟨[]⟩)::d)[s]? =some y->linear y=false/\y.pure/\Rv w Gi ((#[Value.func (.yield l) #[] #[]] ++m).getD s undef) y:=by
  intro s y hy;cases s with
  |zero=>
   simp at hy;subst hy;refine⟨rfl,by simp only[V.pure,V.ok],?_⟩
   have e:(#[Value.func (.yield l) #[] #[]] ++m).getD 0 undef=Value.func (.yield l) #[] #[] :=by
    simp_all
   rw[e];exact .lit _ rfl
  |succ s=>
   have D:d[s]? =some y:=EO;have u:s<m.size:=by rw[Q];exact(Pg.1 D).1
   obtain⟨q1,q2⟩:=B s m[s] y (by simp[u]) D;refine⟨R s y D,q1,?_⟩
   have e:(#[Value.func (.yield l) #[] #[]] ++m).getD (s+1) undef=m[s] :=by
    rw[Qy,RG Af];simp[u]
   rw[e];exact q2.aW ab q1
 have x:∀s,(uD (V.lit (Value.func (.yield l) ⟨[]⟩ ⟨[]⟩)::d)).env s=match(V.lit (Value.func (.yield l) ⟨[]⟩ ⟨[]⟩)::d)[s]? with|some y=>y|none=> .tup [] :=λs=>by
  have Z:(uD (V.lit (Value.func (.yield l) ⟨[]⟩ ⟨[]⟩)::d)).env=pF (V.lit (Value.func (.yield l) ⟨[]⟩ ⟨[]⟩)::d) 0:=rfl;rw[Z,lY];grind
 have I:∀k,(uD (V.lit (Value.func (.yield l) ⟨[]⟩ ⟨[]⟩)::d)).ar k=none:=λk=>by
  have Z:(uD (V.lit (Value.func (.yield l) ⟨[]⟩ ⟨[]⟩)::d)).ar=jK (V.lit (Value.func (.yield l) ⟨[]⟩ ⟨[]⟩)::d) 0:=rfl;rw[Z,gY];simp only[P8,QM,Rj];grind [linear]
 have inv:Inv T Φ (uD (V.lit (Value.func (.yield l) ⟨[]⟩ ⟨[]⟩)::d)) {tmps:=(#[Value.func (.yield l) #[] #[]] ++m)++Array.replicate (q.ntmps- (#[Value.func (.yield l) #[] #[]] ++m).size) undef,defers:=[]} w Gi:=by
  constructor;rfl;intro s v u;cases u;grind;intro s;rw[x s];by_cases u:s< (#[Value.func (.yield l) #[] #[]] ++m).size
  have hv:((#[Value.func (.yield l) #[] #[]] ++m)++Array.replicate (q.ntmps- (#[Value.func (.yield l) #[] #[]] ++m).size) undef).getD s undef=(#[Value.func (.yield l) #[] #[]] ++m).getD s undef:=by
   rw[Qy,Qy,RH u]
  have hy:(V.lit (Value.func (.yield l) ⟨[]⟩ ⟨[]⟩)::d)[s]? =some (V.lit (Value.func (.yield l) ⟨[]⟩ ⟨[]⟩)::d)[s] :=Pj (by rw[S]at u;simpa using u);show Rv w Gi (((#[Value.func (.yield l) #[] #[]] ++m)++Array.replicate (q.ntmps- (#[Value.func (.yield l) #[] #[]] ++m).size) undef).getD s undef) _;rw[hv,hy];exact(M s _ hy).2.2;have hy:(V.lit (Value.func (.yield l) ⟨[]⟩ ⟨[]⟩)::d)[s]? =none:=Qj (by rw[S]at u;simp;omega);rw[hy]
  have hv:((#[Value.func (.yield l) #[] #[]] ++m)++Array.replicate (q.ntmps- (#[Value.func (.yield l) #[] #[]] ++m).size) undef).getD s undef=undef:=by
   rw[Qy,RG Aa];grind
  show Rv w Gi (((#[Value.func (.yield l) #[] #[]] ++m)++Array.replicate (q.ntmps- (#[Value.func (.yield l) #[] #[]] ++m).size) undef).getD s undef) _;rw[hv];exact xK w Gi;intro s;rw[x s];cases hy:(V.lit (Value.func (.yield l) ⟨[]⟩ ⟨[]⟩)::d)[s]? with
  |none=>simp only[V.ok,V.okL]
  |some y=>exact V.pure.ok (M s y hy).2.1 _ _
  intro i cs' hi;exact LV;intro i cs' hi;exact LV;intro k en t;rw[I k]at t;cases t;intro k en t;rw[I k]at t;cases t;grind;grind;grind;intro b r;exact .inl r;intro b r;exact r;intro b _ _;rfl;exact Po _;rfl;rfl;rfl;intro j v h;cases h;grind;intro i b h;cases h
 have hi:pU T q.ntmps w JX (some 0) (uD (V.lit (Value.func (.yield l) ⟨[]⟩ ⟨[]⟩)::d)) {tmps:=(#[Value.func (.yield l) #[] #[]] ++m)++Array.replicate (q.ntmps- (#[Value.func (.yield l) #[] #[]] ++m).size) undef,defers:=[]} w Φ G Gi:=
  ⟨rfl,rfl,rfl,h0,U,λb r=> .inl ((C b).1 r),λb r=>r.elim,Po _,inv⟩
 refine callsIn_of_wp (F:=FW none) hf r trivial (QV (eQ3 hT hm K aa hY c _ _ _ w Φ G Gi _ hi h) ?_)
 have H:∀(k:Option Nat) (σ:St) (A:Act) (w':World) (Φ:Fr) (G' Gi:Gh),dZ2 g.length k->pU T q.ntmps w JX k σ A w' Φ G' Gi->A.defers=[]/\∃v,(results q A.tmps).run P w'= .ok v w'/\((∃v',Ending.returned v= .returned v')/\((∃G',J g.length w' G')\/∃G',X w' G')):=by
  intro k σ A w' Φ G' Gi hk hi;have z:=hi.now K;refine⟨by rw[hi.inv.nd,hi.ds], .tuple #[],?_,⟨_,rfl⟩,?_⟩
  have hr:q.results= #[] :=by
   simp_all
  simp[results,hr];cases k with
  |none=>exact .inr ⟨G',z⟩
  |some k=>
   have:k=g.length:=hk;subst this;exact .inl ⟨G',z⟩
 rintro e A w' ⟨k,σ,Y,G',Gi',E,L⟩;cases e with
 |normal=>exact H k σ A w' Y G' Gi' E L
 |ret=>exact H k σ A w' Y G' Gi' E L
 |exit id=>exact(E:False).elim
 |goto l=>exact(E:False).elim
 |panic c=>exact(E:False).elim
 |outgrown=>exact(E:False).elim
 exact h.elim
def cD0{x y:ItC}{k:Option Nat}{Q:ItQ}(h:x k σ λe c b=>match e with
 | .normal=>y c b Q
 |e=>Q e c b):eF8 x y k σ Q:=⟨h⟩
def eD4{x:ItC}{k:Option Nat}{Q:ItQ}{A:Type}(st:A->St)(c:A->Option Nat)(inv:A->Prop)(m:A->Nat)(d:A)(g:Le T σ (st d))(i:inv d)(j:c d=k)(h:∀p,inv p->x (c p) (st p) λe f b=>match e with
 | .normal=>∃p',Le T b (st p')/\inv p'/\c p'=f/\m p'<m p
 |e=>Q e f b):bX4 T x k σ Q:=⟨A,st,c,inv,m,⟨d,g,i,j⟩,h⟩
def dE2{b:List (List V)}{l k:Nat}{xs:List V}{A B:Prop}(c:b[k]? =some xs)(d:bM xs)(e:A)(f:B):dC9 b l l k xs A B:=⟨rfl,c,d,e,f⟩
end
end Go.Ab
namespace Go.Ab
open Go.ChangeShapes Go.WideShapes Go.ChangeAt Go.RowKit
def Dec(P:Program)(w:World)(G:Gh)(t:TypeId)(Q:List V->Prop):Prop:=
 ∀(H:Type) (enc:TypeId×Value->H) (fuel:Nat) (cs:List Value) (x:DataW H×List MemPlace),DataW.trod enc P w 0 (λ_=>true) true fuel t cs=some x->(∀n∈x.1.weights P t,n<=reachBytes)->
  ∃xs,Q xs/\RvL w G cs xs/\bM xs/\xs.length=P.cellsOf t/\∀y∈xs,y.atom=true
def QInt(k:IntKind)(lo hi:Int):List V->Prop:=λxs=>∃n:Int,xs=[.lit (.int k n)]/\lo<=n/\n<=hi
def zI(agg:Bool)(Q:List V->Prop):List V->Prop:=λxs=>∃l:List V,xs=[.sl l]/\l.length<=reachBytes/\∀x∈l,Q x.cells/\(agg=true->∃ys,x= .agg ys)/\(agg=false->∀ys,x≠ .agg ys)
section
variable{P:Program}{w:World}{G:Gh}{t:TypeId}
def RvL.lit1{u:Value}(h:u.oneCell'=true):RvL w G [u] [.lit u] :=
 ⟨rfl,λv hv=>by cases Py.1 hv;exact h,λi v x hv a=>by
  cases i with
  |zero=>simp at hv a;subst hv a;exact .lit _ h
  |succ i=>simp at hv⟩
def dI6{k:IntKind}(d:P.underlying t=some (.int k))(b:P.cellsOf t=1){lo hi:Int}(c:∀n,(Lit.int k n).wf=true->lo<=n/\n<=hi):Dec P w G t (QInt k lo hi):=by
 intro H enc a cs x h _;obtain⟨n,rfl,_,e⟩:=DataW.trod_int d h;refine⟨_,⟨n,rfl,c n e⟩,RvL.lit1 rfl,?_,by rw[b];rfl,λy hy=>Cf⟩;simp only[bM,V.okL,V.ok,and_self]
def QStr:List V->Prop:=λxs=>∃s:ByteArray,xs=[.lit (.string s)]/\s.size<=reachBytes
def eO8(d:P.underlying t=some .string)(b:P.cellsOf t=1):Dec P w G t QStr:=by
 intro H enc a cs x h e;obtain⟨n,rfl,rfl,_⟩:=DataW.trod_string d h
 have c:n.size<=reachBytes:=by
  have:=e n.data.toList.length (by simp[DataW.weights]);simpa using this
 refine⟨_,⟨n,rfl,c⟩,RvL.lit1 rfl,?_,by rw[b];rfl,λy hy=>Cf⟩;simp only[bM,V.okL,V.ok,and_self]
def QAll:List (List V->Prop)->List V->Prop
 | [],xs=>xs=[]
 |Q::r,xs=>∃a b,xs=a++b/\Q a/\QAll r b
def Parts(P:Program)(w:World)(G:Gh):Nat->List (Nat×TypeId)->List (List V->Prop)->Nat->Prop
 |off,[],[],e=>off=e
 |off,f::r,Q::s,e=>f.1=off/\Dec P w G f.2 Q/\Parts P w G (off+P.cellsOf f.2) r s e
 |_,_,_,_=>False
def mM{off e:Nat}(h:off=e):Parts P w G off [] [] e:=h
def aY{off e:Nat}{f:Nat×TypeId}{r:List (Nat×TypeId)}{Q:List V->Prop}{s:List (List V->Prop)}(a:f.1=off)(b:Dec P w G f.2 Q)(c:Parts P w G (off+P.cellsOf f.2) r s e):Parts P w G off (f::r) (Q::s) e:=⟨a,b,c⟩
def cS3{p:Nat->Prop}{q:Nat->Nat->Prop}{a b:List V}(c:V.okL p q a)(d:V.okL p q b):V.okL p q (a++b):=by
 rw[aH]at*;intro x e;rcases Pv.1 e with h|h;exact c x h;exact d x h
def bV7{H:Type}{enc:TypeId×Value->H}{n:Nat}{cs:List Value}:∀(c:List (Nat×TypeId)) (a:List (List V->Prop)) (off e:Nat),Parts P w G off c a e->
 (∀f∈c,∃y,DataW.trod enc P w 0 (λ_=>true) true n f.2 ((cs.drop f.1).take (P.cellsOf f.2))=some y/\∀k∈y.1.weights P f.2,k<=reachBytes)->cs.length=e->
 ∃xs,QAll a xs/\RvL w G (cs.drop off) xs/\bM xs/\off+xs.length=e/\∀y∈xs,y.atom=true:=by
 intro c;induction c with
 |nil=>
  intro a off e b _ l;cases a with
  |nil=>
   have:off=e:=b;refine⟨[],rfl,?_,G7,by simpa using this,Af⟩;rw[List.drop_eq_nil_of_le Aa];exact⟨rfl,Af,Af⟩
  |cons=>exact b.elim
 |cons f r x=>
  intro a off e b j l;cases a with
  |nil=>exact b.elim
  |cons Q s=>
   obtain⟨o,q,u⟩:=b;obtain⟨y,d,i⟩:=j f Af;obtain⟨xs,D,m,E,J,F⟩:=q H enc n _ y d i;obtain⟨ys,z,A,B,I,C⟩:=x s _ e u (λg v=>j g (by simp[v])) l;refine⟨xs++ys,⟨xs,ys,rfl,D,z⟩,?_,cS3 E B,Be,?_⟩
   have:cs.drop off=(cs.drop off).take (P.cellsOf f.2)++cs.drop (off+P.cellsOf f.2):=by
    rw[<-List.drop_drop,Qq]
   rw[this];rw[o]at m;exact m.append A;intro y d;rcases Pv.1 d with h|h;exact F y h;exact C y h
def lZ{a:Array Field}{d:List (List V->Prop)}(ht:P.underlying t=some (.struct a))(s:Parts P w G 0 (a.toList.map λf=>(f.offset,f.type)) d (P.cellsOf t)):Dec P w G t (QAll d):=by
 intro H enc e cs x h u;obtain⟨xs,n,_,rfl,r,l,m⟩:=DataW.trod_struct ht h;have c:∀k∈DataW.weightsEach P (a.toList.map (·.type)) (xs.map (·.1)),k<=reachBytes:=λk hk=>u k F5
 obtain⟨ys,k1,k2,k3,k4,k5⟩:=bV7 (enc:=enc) (n:=n) _ _ 0 _ s (λf b=>by
  obtain⟨g,o,rfl⟩:=PI.1 b;obtain⟨i,hi⟩:=P7 o
  have q:i<a.size:=by
   have:=(Pg.1 hi).1;simpa using this
  have:=m i g (by simpa using hi)
  rw[Pj Aa]at this;exact⟨_,this,λk hk=>c k (DataW.weights_mem_each (j:=i) (t:=g.type) (by rw[PK,hi];rfl) (by rw[PK,Pj (by omega)];rfl) k hk)⟩) r
 exact OA
def weightsAll_mem{H:Type}{P:Program}{e:TypeId}{d:DataW H}{k:Nat}:∀ {l:List (DataW H)},d∈l->k∈d.weights P e->k∈DataW.weightsAll P e l
 |x::l,h,a=>by
  simp only[DataW.weightsAll,Pv];rcases P5.1 h with rfl|h;exact .inl a;exact .inr (weightsAll_mem h a)
def weightsEach_app{H:Type}{P:Program}{b:List TypeId}{es:List (DataW H)}{k:Nat}:∀ {a:List TypeId} {ds:List (DataW H)},k∈DataW.weightsEach P a ds->k∈DataW.weightsEach P (a++b) (ds++es)
 |t::a,d::ds,h=>by
  simp only[DataW.weightsEach,Pv,RN]at h⊢;exact h.imp id weightsEach_app
 | [],_,h=>by simp[DataW.weightsEach]at h
 |_::_,[],h=>by simp[DataW.weightsEach]at h
def dN6{m:Nat}{e:TypeId}{c:List (List V->Prop)}(ht:P.underlying t=some (.array m e))(q:Parts P w G 0 ((List.range m).map λi=>(i*P.cellsOf e,e)) c (P.cellsOf t)):Dec P w G t (QAll c):=by
 intro H enc d cs x h r;obtain⟨xs,n,_,rfl,o,g,j⟩:=DataW.trod_array ht h;have b:∀k∈DataW.weightsAll P e (xs.map (·.1)),k<=reachBytes:=λk hk=>r k F5
 obtain⟨ys,k1,k2,k3,k4,k5⟩:=bV7 (enc:=enc) (n:=n) _ _ 0 _ q (λf a=>by
  obtain⟨i,l,rfl⟩:=PI.1 a;have hi:i<m:=Qh.1 l;have:=j i hi
  rw[Pj Aa]at this;exact⟨_,this,λk hk=>b k (weightsAll_mem (PI.2 ⟨_,Rl Aa,rfl⟩) hk)⟩) o
 exact OA
def pV{e:TypeId}{Q:List V->Prop}(agg:Bool)(ht:P.underlying t=some (.slice e))(hc:P.cellsOf t=1)(he:Dec P w G e Q)(hz:0<P.cellsOf e)(E:agg=false->P.cellsOf e=1)(ab:0<P.bytesOf e)(hG:∀b,b<w.heap.size->G.O b= .fz):Dec P w G t (zI agg Q):=by
 intro H enc ad cs x h W;rcases Deep.open_slice ht h with⟨rfl,rfl⟩|⟨a,f,cap,m,n,D,Pl,rfl,hb,hl,hm,U,rfl,u⟩;refine⟨_,⟨[],rfl,Af,Af⟩,⟨rfl,λv hv=>by cases Py.1 hv;rfl,λi v x hv u=>?_⟩,by simp only[bM,V.okL,V.ok,and_self],by rw[hc];rfl,λy hy=>Cf⟩;cases i with
 |zero=>simp at hv u;subst hv u;exact .slN
 |succ i=>simp at hv
 simp only[QM]at U;subst U
 have B:∀i,i<f->∃A xs,w.cells? 0 (a.add (i*P.cellsOf e)) (P.cellsOf e)=some A/\Q xs/\RvL w G A xs/\bM xs/\xs.length=P.cellsOf e/\∀y∈xs,y.atom=true:=by
  intro i hi;obtain⟨A,J,Z⟩:=u i Aa
  obtain⟨xs,q⟩:=he H enc n A _ Z (λk hk=>W k (by
   simp only[DataW.weights,ht,P5,Pv];exact .inr (.inl (weightsAll_mem (PI.2 ⟨i,Qh.2 hi,rfl⟩) hk))))
  exact⟨A,xs,J,q⟩
 let X:Nat->List V:=λi=>if h:i<f then(B i h).choose_spec.choose else []
 let C:Nat->List Value:=λi=>if h:i<f then(B i h).choose else []
 have L:∀i,i<f->w.cells? 0 (a.add (i*P.cellsOf e)) (P.cellsOf e)=some (C i)/\Q (X i)/\RvL w G (C i) (X i)/\bM (X i)/\(X i).length=P.cellsOf e/\∀y∈X i,y.atom=true:=by
  intro i hi;simp only[X,C,dif_pos hi];exact(B i hi).choose_spec.choose_spec
 let F:Nat->V:=λi=>cond agg (.agg (X i)) ((X i).headD .bot)
 have M:∀i,i<f->(F i).cells=X i:=by
  intro i hi;obtain⟨_,_,_,_,K,h6⟩:=L i hi;cases d:agg with
  |true=>simp only[F,d,Qo,V.cells]
  |false=>
   have J:=E d;rw[J]at K;match g:X i,K with
   | [y],_=>
     simp only[F,d,Qu,g,SC];have:=h6 y (by rw[g];simp);cases y<;>first|rfl|(simp[V.atom]at this)
 let l:List V:=(List.range f).map F;have s:l.length=f:=by simp[l]
 have ae:f<=reachBytes:=by
  have:=W _ (by simp only[DataW.weights,ht,P5];exact .inl rfl);simp only[P6,List.length_range]at this;exact PD (PD (Nat.le_add_right _ _) (Nat.le_mul_of_pos_right _ ab)) this
 have I:∀x∈l,x.cells.length=P.cellsOf e:=by
  intro x u;obtain⟨i,hi,rfl⟩:=PI.1 u;rw[M i (Qh.1 hi)];exact(L i (Qh.1 hi)).2.2.2.2.1
 have S:∀i,i<f->l[i]? =some (F i):=λi hi=>by simp[l,hi]
 have N:bM l:=by
  refine aH.2 ?_;intro x u;obtain⟨i,hi,rfl⟩:=PI.1 u;have r:=Qh.1 hi;have hp:=(L i r).2.2.2.1;cases d:agg with
  |true=>simp only[F,d,Qo,V.ok];exact hp
  |false=>
   have K:=(L i r).2.2.2.2.1;rw[E d]at K;match g:X i,K with
   | [y],_=>
     simp only[F,d,Qu,g,SC];rw[g]at hp;exact aH.1 hp y Af
 have z:∀(j:Nat) y,(l.flatMap V.cells)[j]? =some y->∃c,w.cell? (a.add j)=some c/\c.oneCell'=true/\Rv w G c y:=by
  intro j y hy
  have T:j<f*P.cellsOf e:=by
   have:=(Pg.1 hy).1;rw[sH I,s]at this;exact this
  have hi:j/P.cellsOf e<f:=Nat.div_lt_of_lt_mul (by rw[Nat.mul_comm];exact T);have hr:j% P.cellsOf e<P.cellsOf e:=QE _ hz;have hj:j/P.cellsOf e*P.cellsOf e+j% P.cellsOf e=j:=by rw[Nat.mul_comm];exact Nat.div_add_mod j _
  have R:=flat_get I (S _ hi) (j% P.cellsOf e) hr;rw[hj,hy,M _ hi]at R;obtain⟨g1,g2,g3,g4,g5,g6⟩:=L _ hi;obtain⟨_,c1,c2⟩:=World.cells?_some g1;have o:=c2 _ hr;rw[Deep.add_add,hj]at o;have hlt:j% P.cellsOf e< (C (j/P.cellsOf e)).length:=by rw[c1];exact hr
  rw[Pj hlt]at o;refine⟨_,o,g3.one _ (Rl hlt),g3.rel (j% P.cellsOf e) _ y Ht R.symm⟩
 let cc:Nat->Value:=λj=>(w.cell? (a.add j)).getD undef
 have o:∀(j:Nat) y,(l.flatMap V.cells)[j]? =some y->w.cell? (a.add j)=some (cc j)/\(cc j).oneCell'=true/\Rv w G (cc j) y:=by
  intro j y hy;obtain⟨c,J,Z,h3⟩:=z j y hy;have:cc j=c:=by simp[cc,J]
  rw[this];exact⟨J,Z,h3⟩
 have ac:0<l.length->G.O a.block= .fz:=by
  intro h0;rw[s]at h0;have af:0< (l.flatMap V.cells).length:=by rw[sH I,s];exact Nat.mul_pos h0 hz
  have J:=(o 0 (l.flatMap V.cells)[0] Af).1;refine hG _ ?_;have aa:(a.add 0).block=a.block:=EW;rcases Qx a.block w.heap.size with h|h;exact h;exfalso;have:w.heap[(a.add 0).block]? =none:=by rw[aa];exact RZ h
  simp[World.cell?,this]at J
 refine⟨[.sl l],⟨l,rfl,by rw[s];omega,?_⟩,⟨rfl,λv hv=>by cases Py.1 hv;rfl,λi v x hv u=>?_⟩,?_,by rw[hc];rfl,λy hy=>Cf⟩;intro x u;obtain⟨i,hi,rfl⟩:=PI.1 u;have r:=Qh.1 hi;rw[M i r];refine⟨(L i r).2.1,λY=>⟨X i,?_⟩,λY ys=>?_⟩;simp only[F,Y,Qo];have K:=(L i r).2.2.2.2.1;rw[E Y]at K;match g:X i,K with
 | [y],_=>
   simp only[F,Y,Qu,g,SC];have:=(L i r).2.2.2.2.2 y (by rw[g];simp);intro e;rw[e]at this;simp[V.atom]at this
 cases i with
 |zero=>
  simp at hv u;subst hv u;have:=Rv.slS (w:=w) (G:=G) a m l (P.cellsOf e) cc (by rw[s];exact hl) hm ac I (λj y hy=>⟨(o j y hy).1,(o j y hy).2.1⟩) (λj y hy=>(o j y hy).2.2);rwa [s]at this
 |succ i=>simp at hv
 simp only[bM,V.okL,V.ok,and_true];exact N
def wE(P:Program)(T:Tab)(w:World)(G:Gh)(R:List V->Prop)(ts:List TypeId):Prop:=
 ∀(H:Type) (enc:TypeId×Value->H) (vs:List Value) (ds:List (DataW H)) (ps:List MemPlace),DataW.TrodAll enc P w 0 (λ_=>true) true ts vs ds ps->(∀n∈DataW.weightsEach P ts ds,n<=reachBytes)->
  (∀(j:Nat) t v,ts[j]? =some t->vs[j]? =some v->(aggB (P.underlying t)=true->∃cs,v= .agg cs)/\(aggB (P.underlying t)=false->∀cs,v≠ .agg cs))->
  ∃ys,R ys/\ys.length=vs.length/\∀(j j':Nat) v y,vs[j]? =some v->ys[j]? =some y->Rb T w G j' v y
def dF6{T:Tab}{j:Nat}{v:Value}{y:V}(b:y.pure)(a:linear y=false)(h:Rv w G v y):Rb T w G j v y:=by
 cases y<;>first|exact⟨b,h⟩|(simp[linear]at a)
def aI0(agg:Bool)(xs:List V):V:=cond agg (.agg xs) (xs.headD .bot)
def vW{T:Tab}:wE P T w G (λys=>ys=[]) [] :=by
 intro H enc vs ds a h _ _;obtain⟨rfl,_,_⟩:=trodAll_nil h;exact⟨[],rfl,rfl,Af⟩
def oV{T:Tab}{E:List TypeId}{Q:List V->Prop}{R:List V->Prop}(z:Dec P w G t Q)(m:aggB (P.underlying t)=false->P.cellsOf t=1)(O:wE P T w G R E):
 wE P T w G (λys=>∃xs r,ys=aI0 (aggB (P.underlying t)) xs::r/\Q xs/\R r) (t::E):=by
 intro H enc vs ds ps h J a;obtain⟨v,F,d,e,p,q,rfl,rfl,rfl,l,M⟩:=trodAll_cons h;have B:∀n∈d.weights P t,n<=reachBytes:=λn s=>J n (by simp only[DataW.weightsEach,Pv];exact .inl s);have C:∀n∈DataW.weightsEach P E e,n<=reachBytes:=λn s=>J n (by simp only[DataW.weightsEach,Pv];exact .inr s);obtain⟨f,l⟩:=l;obtain⟨xs,U,D,K,L,W⟩:=z H enc f _ _ l B;obtain⟨r,X,Y,Z⟩:=O H enc F e q M C (λj t v z hv=>a (j+1) t v (by simpa using z) AZ);refine⟨_,⟨xs,r,rfl,U,X⟩,by simp[Y],?_⟩;intro j S u y g k;cases j with
 |succ j=>simp at g k;exact Z j S u y g k
 |zero=>
  simp at g k;subst g k;cases o:aggB (P.underlying t)with
  |true=>
   obtain⟨cs,rfl⟩:=(a 0 t v Af Af).1 o;have b:RvL w G cs.toList xs:=D;refine dF6 (by simp only[aI0,Qo,V.ok];exact K) rfl ?_;exact .agg cs xs (by have:=b.len;simpa using this) (λc hc=>b.one c CQ) (λi c x hc A=>b.rel i c x CQ A)
  |false=>
   rw[m o]at L;match xs,L with
   | [x],_=>
     have A:=W x Af;have I:=D.len;have N:x.pure:=aH.1 K x Af
     have hv:Rv w G v x:=by
      cases v with
      |agg cs=>
       exact absurd rfl ((a 0 t _ Af Af).2 o cs)
      |_=>exact D.rel 0 _ x (by simp[Value.cells]) rfl
     refine dF6 (by simp only[aI0,Qu,SC];exact N) ?_ (by simpa [aI0]using hv);simp only[aI0,Qu,SC];cases x<;>first|rfl|(simp[V.atom]at A)
def cF6{r:Reach}{b:Nat}{v:Value}(h:Value.okWide P w r b t v):(aggB (P.underlying t)=true->∃cs,v= .agg cs)/\(aggB (P.underlying t)=false->∀cs,v≠ .agg cs):=by
 unfold Value.okWide at h;split at h;rename_i d hu;exact NY;rename_i n e hu;exact NY;rename_i f g;refine⟨λc=>?_,λ_ cs hv=>?_⟩;unfold aggB at c;split at c;rename_i d hu;exact(f d hu).elim;rename_i n e hu;exact(g n e hu).elim;cases c;subst hv;unfold Cell.okWide at h;split at h<;>first|(rename_i a;cases a;done)|(rename_i a _;cases a;done)|skip
 unfold Cell.ok at h;split at h<;>first|(rename_i a;cases a;done)|(rename_i a _;cases a;done)|exact h
def bO3{H:Type}{enc:TypeId×Value->H}{f:Func}{s:ChangeSpec}{c n d m:Bool}{W q:World}{args:Array Value}{v:Value}{ds u:List (DataW H)}{a pa pv:List MemPlace}
 (y:DataW.Whole enc P f.params.toList s.vars c W args.toList ds u a)
 (l:∀(b:Nat) (o:Nat->Bool) (D:Bool),DataW.TrodAll enc P q b o D f.resultTypes.toList (v.resultList f.resultTypes.size) (s.fn H (ds++u)).results [])
 (e:∀o:Nat->Bool,(∀p∈a,o p.block=true)->DataW.TrodAll enc P q 0 o true f.params.toList args.toList (s.fn H (ds++u)).args pa)
 (h:∀o:Nat->Bool,(∀p∈a,o p.block=true)->DataW.TrodVars enc P q o s.vars (s.fn H (ds++u)).vars pv)
 (i:a=pa++pv)(B:Below W.heap.size W q)
 (A:∀(j:Nat) (t:TypeId) (r:Value),f.resultTypes[j]? =some t->(v.resultList f.resultTypes.size)[j]? =some r->Value.okWide P q .any 0 t r):
 s.post enc P f c n d m W args v q:=by
 have k:∀p∈a,(λb=>decide (b<W.heap.size)) p.block=true:=λp g=>by simpa using y.lt p g
 have z:∀p∈a,p.block<W.heap.size:=λp g=>y.lt p g;refine⟨ds,u,a,[],pa,pv,y,l _ _ _,e _ k,h _ k,World.keptBut_mono (λp g=>⟨g,?_⟩) (B.frame (·∈a)),λ_=>?_⟩
 ·rw[i,Pv]at g
  exact Or.inr g
 ·obtain⟨_,_,_,_,_,F,E⟩:=y
  refine⟨A,_,_,([] ++pa)++pv,⟨[] ++pa,pv,trodAll_append (e _ (λ_ _=>rfl)) (l _ _ _),h _ (λ_ _=>rfl),rfl,?_,?_⟩,?_⟩
  ·intro b off g
   have x:MemPlace.cell b off∈a:=by rw[i];simpa using g
   rw[B.frozen (p:=⟨b,off,none⟩) (z _ x)];exact F b off x
  ·intro C
   have:=E C;rw[i]at this;simpa using this
  ·intro p g _
   rw[i];simpa using g
def bN8{H:Type}{enc:TypeId×Value->H}{W j:World}(o:laidOutB P=true)(n:Below W.heap.size W j){k:Nat->Bool}:∀(b:List TypeId) (vs:List Value) (ds:List (DataW H)) (a:List MemPlace),
 (∀t∈b,P.readableRec t=true/\t<P.types.size)->DataW.TrodAll enc P W 0 (λ_=>true) true b vs ds a->(∀p∈a,p.block<W.heap.size/\k p.block=true)->DataW.TrodAll enc P j 0 k true b vs ds a:=by
 intro b;induction b with
 |nil=>
  intro vs ds a _ h _;obtain⟨rfl,rfl,rfl⟩:=trodAll_nil h;exact trodAll_mk0
 |cons t r s=>
  intro vs ds a f h e;obtain⟨v,i,d,c,p,q,rfl,rfl,rfl,l,m⟩:=trodAll_cons h;refine trodAll_cons_mk ?_ (s i c q (λt g=>f t (by simp[g])) m (λx hx=>e x BO));exact WideElems.Trod_stays o (f t Af).1 (f t Af).2 l (λx hx=>n.same (e x BO).1) (λx hx=>(e x BO).2)
def bQ(W:World):Gh:=⟨λ_=>0,λ_ _=>undef,λb=>if b<W.heap.size then .fz else .ext⟩
def jZ(W:World):∀b,b<W.heap.size->(bQ W).O b= .fz:=λb a=>by simp[bQ,a]
def tJ{T:Tab}{f:FuncId}{u:Func}{s:ChangeSpec}{tb:TypeId}{R:List V->Prop}(hl:laidOutB P=true)(l:s.vars=[])(af:∀(H:Type) (ds:List (DataW H)),ds.length=u.params.size->s.fn H ds={results:=[.lit (.bool true)],args:=ds})
 (z:u.resultTypes= #[tb])(Q:P.underlying tb=some .bool)(al:∀t∈u.params.toList,P.readableRec t=true/\t<P.types.size)
 (K:∀W:World,wE P T W (bQ W) R u.params.toList)(E:∀ys,R ys->Spec T P f ys (.lit (.bool true)))
 {H:Type}{enc:TypeId×Value->H}{a B c A:Bool}(W:World)(I:Nat)(args:Array Value)(ds gs:List (DataW H))(o:List MemPlace)
 (S:∀(j:Nat) t v,u.params[j]? =some t->args[j]? =some v->Value.okWide P W .any I t v)
 (hW:DataW.Whole enc P u.params.toList s.vars a W args.toList ds gs o)(ak:(DataW.weightsEach P (u.params.toList++s.plain.varTypes P) (ds++gs)).all (·<=reachBytes)=true)(L:T.lay W (λb=>b<W.heap.size)):
 Calls P f args W λe X=>∃v,e= .returned v/\s.post enc P u a B c A W args v X:=by
 have J:=hW;obtain⟨p,q,Z,hV,rfl,an,ao⟩:=hW;rw[l]at hV;obtain⟨rfl,rfl⟩:=trodVars_none hV;obtain⟨ys,hR,M,ai⟩:=K W H enc args.toList ds p Z (λn hn=>by simpa using QR.1 ak n (weightsEach_app hn)) (λj t v ht hv=>cF6 (S j t v (by simpa using ht) AZ));obtain⟨ad,hs⟩:=E ys hR
 have ac:∀b,(bQ W).O b≠ .ext->b<W.heap.size:=λb m=>by
  by_cases h:b<W.heap.size;exact h;simp[bQ,h]at m
 have ab:∀b i,(bQ W).O b≠ .bx i:=λb i m=>by
  by_cases h:b<W.heap.size<;>simp[bQ,h]at m
 have aa:∀b j,(bQ W).O b≠ .ar j:=λb i m=>by
  by_cases h:b<W.heap.size<;>simp[bQ,h]at m
 refine(hs W (bQ W) args (by rw[M];simp) ac ab (λj v y hv hy=>ai j j v y AZ hy) (T.lay_mono (λb m=>⟨jZ W b m,rfl⟩) L)).mono ?_;rintro e X ⟨v,G',rfl,hr,_,_,_,_,C,D,ah,F,N⟩;refine⟨v,rfl,?_⟩;have hv:v= .bool true:=hr.2.bH;subst hv;have m:Below W.heap.size W X:=⟨ah,F,N,D,λk hk=>C k hk (aa k)⟩;have ag:∀x∈p,x.block<W.heap.size:=λx hx=>J.lt x BO
 have ae:ds.length=u.params.size:=by
  have gen:∀(U:List TypeId) (vs:List Value) (ds:List (DataW H)) (ps:List MemPlace),DataW.TrodAll enc P W 0 (λ_=>true) true U vs ds ps->ds.length=U.length:=by
   intro U;induction U with
   |nil=>intro vs ds ps h;obtain⟨_,rfl,_⟩:=trodAll_nil h;rfl
   |cons t r ih=>
    intro vs ds ps h;obtain⟨v,am,d,Y,p,q,rfl,rfl,rfl,h1,h2⟩:=trodAll_cons h;simp[ih am Y q h2]
  have:=gen _ _ _ _ Z;simpa using this
 have g:=af H ds ae;refine bO3 (pa:=p) (pv:=[]) J ?_ ?_ ?_ rfl m ?_
 ·intro b sp hd
  rw[Pz,g,z];exact trodAll_cons_mk (shut_bool Q true) trodAll_mk0
 ·intro sp aj
  rw[Pz,g];exact bN8 hl m _ _ _ _ al Z (λx hx=>⟨ag x hx,aj x BO⟩)
 ·intro sp _
  rw[Pz,g,l];rfl
 ·exact ok_one z rfl (okWide_bool_mk Q true)
end
end Go.Ab
