/-
  An operation comes to one end.
-/
import Derived.Test.YtdjgbagnajikeaaGreatDoorA7
set_option linter.unusedVariables false
set_option linter.unusedSimpArgs false
noncomputable section
namespace Go.Ab
def Det(Φ:VK->Prop):Prop:=∀K,Φ K->∃v ms,K v ms/\∀K',K' v ms->Φ K'
def DetL(Φ:(List V->Prop)->Prop):Prop:=∀K,Φ K->∃l,K l/\∀K',K' l->Φ K'
theorem Det.ret(v:V)(a:List Mod):Det (λK=>K v a):=λ_ h=>⟨v,a,h,λ_ h=>h⟩
theorem Det.false:Det (λ_=>False):=λ_ h=>h.elim
theorem Det.need{p:Prop}{Φ:VK->Prop}(h:Det Φ):Det (λK=>need p (Φ K)):=λK a=>by
 obtain⟨c,a⟩:=dX a;obtain⟨v,b,e,d⟩:=h K a;grind
theorem Det.arith{k:IntKind}{n:Int}{Φ:Int->VK->Prop}(h:∀m,Det (Φ m)):Det (λK=>arith k n λm=>Φ m K):=λK c=>by
 obtain⟨v,b,f,e⟩:=h _ K (wI c);exact⟨v,b,f,λd a=>by refine⟨?_⟩;exact e d a⟩
theorem Det.idx{l:List V}{i:Nat}{Φ:V->VK->Prop}(h:∀x,Det (Φ x)):Det (λK=>idx l i λx=>Φ x K):=λK b=>by
 obtain⟨x,d,b⟩:=cO3 b;obtain⟨v,c,g,e⟩:=h x K b;exact⟨v,c,g,λf a=>by refine⟨?_⟩;exact⟨x,d,e f a⟩⟩
theorem Det.bytes{xs:List V}{Φ:List Int->VK->Prop}(h:∀ns,Det (Φ ns)):Det (λK=>aZ0 xs λns=>Φ ns K):=λK b=>by
 obtain⟨ns,d,b⟩:=cC4 b;obtain⟨v,c,g,e⟩:=h ns K b;exact⟨v,c,g,λf a=>by refine⟨?_⟩;exact⟨ns,d,e f a⟩⟩
theorem Det.map{es:List V}{s:Value}{z:V}{Φ:V->VK->Prop}(h:∀x,Det (Φ x)):Det (λK=>eG6 es s z λx=>Φ x K):=λK c=>by
 obtain⟨v,b,f,e⟩:=h _ K c.out;exact⟨v,b,f,λd a=>⟨e d a⟩⟩
theorem Det.force{x:V}{Φ:V->VK->Prop}(h:∀x,Det (Φ x)):Det (λK=>force x λy=>Φ y K):=λK b=>by
 have a:Ab.force x (λy=>Φ y K):=b;rw[force_eq]at a;obtain⟨v,c,e,d⟩:=h x K a;grind [force_eq]
theorem Det.bJ{l:List V}{Φ:List V->VK->Prop}(h:∀l,Det (Φ l)):Det (λK=>bJ l λy=>Φ y K):=λK b=>by
 have a:Ab.bJ l (λy=>Φ y K):=b;rw[bC]at a;obtain⟨v,c,e,d⟩:=h l K a;grind [bC]
theorem Det.cond{b:Bool}{Φ a:VK->Prop}(h:Det Φ)(c:Det a):Det (λK=>cond b (Φ K) (a K)):=by
 cases b
 ·exact c
 ·exact h
theorem Det.branch{b:Bool}{Φ a:VK->Prop}(h:Det Φ)(c:Det a):Det (λK=>branch b (Φ K) (a K)):=by
 cases b
 ·exact c
 ·exact h
theorem Det.lF{σ:St}{x:V}{Φ:List V->VK->Prop}(h:∀l,Det (Φ l)):Det (λK=>lF σ x λl=>Φ l K):=by
 unfold Ab.lF;exact Pg
theorem Det.contsK{k:Kd}{σ:St}{x:V}{Φ:List V->VK->Prop}(h:∀l,Det (Φ l)):Det (λK=>contsK k σ x λl=>Φ l K):=by
 unfold Ab.contsK;split
 ·exact Det.lF h
 ·exact h _
 ·exact Det.false
theorem Det.lV{σ:St}{x:V}{Φ:List V->VK->Prop}(h:∀l,Det (Φ l)):Det (λK=>lV σ x λl=>Φ l K):=by
 unfold Ab.lV;exact Pg
theorem Det.bound{o:Option V}{a:Int}{Φ:Int->VK->Prop}(h:∀n,Det (Φ n)):Det (λK=>bound o a λn=>Φ n K):=by
 unfold Ab.bound
 cases o with
 |none=>exact h _
 |some v=>
  cases v with
  |lit u=>
   cases u with
   |int k n=>exact h n
   |_=>exact Det.false
  |_=>exact Det.false
theorem yF(r:Row)(cs:List V):Det (wB r cs):=by
 unfold wB
 cases r.agg with
 |true=>exact Det.bJ λl=>Det.cond (Det.ret _ _) Det.false
 |false=>
  cases cs with
  |nil=>exact Det.false
  |cons x r=>exact Det.force λv=>Det.ret _ _
theorem aR1(a:Nat->Option (Nat×Nat))(σ:St)(c:List (Nat×Operand)):∀(cs:List V) (Φ:List V->VK->Prop),(∀l,Det (Φ l))->Det (λK=>oI a σ c cs λl=>Φ l K):=by
 induction c with
 |nil=>
  intro cs Φ h;exact Det.bJ (l:=cs) h
 |cons p r d=>
  intro cs Φ h
  have b:∀K,oI a σ (p::r) cs K=(match a p.1 with
   |some (o,z)=>cond (Nat.beq (lenR (σ.ev p.2).cells) z&&Nat.ble (o+z) (lenR cs)&&allR V.one (σ.ev p.2).cells) (oI a σ r (splice cs o (σ.ev p.2).cells) K) False
   |none=>False):=λK=>rfl
  simp only[b]
  cases a p.1 with
  |none=>exact Det.false
  |some q=>exact Det.cond (d _ Φ h) Det.false
theorem bD9(T:Tab)(σ:St)(d:Nat)(o:Op):Det (opVC T σ d o):=by
 unfold opVC;split
 ·exact Det.force λv=>Det.ret _ _
 ·exact Det.force λv=>Det.ret _ _
 ·unfold bA8
  split
  ·exact Det.branch (Det.force λv=>Det.ret _ _) (Det.force λv=>Det.ret _ _)
  ·exact Det.false
 ·unfold unVC
  split
  ·exact Det.ret _ _
  ·exact Det.arith λm=>Det.ret _ _
  ·exact Det.false
 ·unfold bD7
  split
  ·refine Det.cond ?_ ?_
   ·unfold cM6
    split<;>first|exact Det.arith λm=>Det.ret _ _|exact Det.need (Det.arith λm=>Det.ret _ _)|exact Det.need (Det.ret _ _)|exact Det.ret _ _|exact Det.false
   ·unfold shVC
    split<;>first|exact Det.need (Det.arith λm=>Det.ret _ _)|exact Det.need (Det.ret _ _)|exact Det.false
  ·unfold cH0
   split<;>first|exact Det.need (Det.ret _ _)|exact Det.ret _ _|exact Det.false
  ·refine Det.cond ?_ Det.false
   unfold bG1;split<;>first|exact Det.ret _ _|exact Det.false
  ·refine Det.cond ?_ Det.false
   unfold aL1;split
   ·refine Det.need ?_
    split<;>first|exact Det.ret _ _|exact Det.false
   ·refine Det.need ?_
    split<;>first|exact Det.ret _ _|exact Det.false
   ·exact Det.false
  ·refine Det.cond ?_ Det.false
   unfold ptrVC;split<;>first|exact Det.ret _ _|exact Det.false
  ·exact Det.false
 ·unfold lM
  exact PD
 ·refine Det.cond ?_ Det.false
  unfold lM;exact PD
 ·refine Det.cond ?_ Det.false
  unfold jB;split
  ·refine Det.cond Det.false ?_
   split
   ·exact Det.ret _ _
   ·exact Det.bJ λl=>Det.ret _ _
   ·exact Det.ret _ _
   ·exact Det.false
  ·exact Det.false
 ·refine Det.cond ?_ Det.false
  unfold aM2;split
  ·exact Det.cond (yF _ _) Det.false
  ·exact Det.false
 ·refine Det.cond ?_ Det.false
  unfold pW;split
  ·split
   ·exact yF _ _
   ·exact Det.false
  ·exact yF _ _
  ·split
   ·exact Det.need (Det.idx λx=>Det.cond (yF _ _) Det.false)
   ·exact Det.false
  ·exact Det.false
 ·refine Det.cond ?_ Det.false
  unfold qU;split
  ·split
   ·exact Det.cond (Det.bJ λl=>Det.ret _ _) Det.false
   ·exact Det.false
  ·split
   ·exact Det.need (Det.idx λx=>Det.cond (Det.bJ λl=>Det.ret _ _) Det.false)
   ·exact Det.false
  ·exact Det.false
 ·refine Det.cond ?_ Det.false
  unfold gI;split
  ·split
   ·exact LQ
   ·exact LQ
   ·split
    ·exact Det.need (Det.cond (Det.ret _ _) Det.false)
    ·exact Det.false
   ·exact Det.false
  ·split
   ·exact Det.cond (Det.ret _ _) Det.false
   ·exact Det.cond (Det.bJ λl=>Det.ret _ _) Det.false
   ·exact Det.false
  ·exact Det.false
 ·refine Det.cond ?_ Det.false
  unfold aM6;split
  ·exact Det.need (Det.ret _ _)
  ·exact Det.cond (yF _ _) Det.false
  ·exact Det.false
 ·unfold wZ
  split
  ·split
   ·exact Det.force λv=>Det.ret _ _
   ·exact Det.false
  ·exact Det.false
 ·exact Det.ret _ _
 ·exact Det.bJ λxs=>Det.ret _ _
 ·refine Det.cond ?_ Det.false
  unfold vO;split
  ·exact aR1 _ _ _ _ (λcs K=>K (.agg cs) []) λl=>Det.ret _ _
  ·exact Det.cond (aR1 _ _ _ _ (λcs K=>K (.agg cs) []) λl=>Det.ret _ _) Det.false
  ·exact Det.false
 ·refine Det.cond ?_ Det.false
  unfold iZ;split
  ·refine Det.cond ?_ Det.false
   exact aR1 _ _ _ _ (λcs K=>cond (allR V.atom cs) (K _ _) False) λl=>Det.cond (Det.ret _ _) Det.false
  ·exact Det.false
 ·refine Det.cond ?_ Det.false
  unfold jY;split
  ·exact Det.need (Det.cond (Det.ret _ _) Det.false)
  ·exact Det.false
 ·refine Det.cond ?_ Det.false
  unfold sZ;split
  ·split
   ·exact Det.bound (Φ:=λl K=>bound _ _ λh=>need _ (K _ _)) λl=>Det.bound (Φ:=λh K=>need _ (K _ _)) λh=>Det.need (Det.ret _ _)
   ·exact Det.false
  ·refine Det.cond ?_ Det.false
   refine Det.lV λxs=>Det.bound λl=>Det.bound λh=>?_;split
   ·exact Det.need (Det.ret _ _)
   ·split
    ·exact Det.false
    ·exact Det.bound λm=>Det.need (Det.ret _ _)
  ·exact Det.false
 ·unfold aF1
  split
  ·unfold convB
   split
   ·exact Det.cond (Det.need (Det.ret _ _)) Det.false
   ·exact Det.false
  ·exact Det.cond (Det.lF λxs=>Det.bytes λns=>Det.ret _ _) Det.false
  unfold bE4;split
  ·exact Det.arith λm=>Det.ret _ _
  ·exact Det.ret _ _
  ·exact Det.false
 ·refine Det.cond ?_ Det.false
  split
  ·unfold aE9
   split<;>first|exact Det.ret _ _|exact Det.false|(split<;>first|exact Det.need (Det.ret _ _)|exact Det.false)
  ·unfold aI4
   split<;>first|exact Det.ret _ _|exact Det.false
  ·exact Det.false
 ·refine Det.cond ?_ Det.false
  unfold kT;split
  ·refine Det.cond ?_ Det.false
   refine Det.contsK λxs=>?_;split
   ·exact KW
   ·exact KW
   ·exact KW
   ·exact Det.false
  ·exact Det.false
 ·unfold rP
  split<;>first|exact Det.ret _ _|exact Det.false
 ·unfold rP
  split<;>first|exact Det.ret _ _|exact Det.false
 ·refine Det.cond ?_ Det.false
  unfold oN;split
  ·exact Det.cond (Det.ret _ _) Det.false
  ·exact Det.false
 ·refine Det.cond ?_ Det.false
  unfold rG;split
  ·split
   ·split
    ·refine Det.need (Det.cond ?_ Det.false)
     exact Ql
    ·exact Det.false
   ·exact Det.false
  ·split
   ·refine Det.cond ?_ Det.false
    exact Ql
   ·exact Det.false
  ·exact Det.false
 ·exact JU
 ·exact JU
 ·exact Det.cond (Det.force λv=>Det.ret _ _) Det.false
 ·exact Det.false
theorem bQ5(σ:St)(d:Nat)(rs:List V):∀(j:Nat) (a:Option (Nat×Nat)) (Φ:List V->List Mod->VK->Prop),(∀vs ms,Det (Φ vs ms))->Det (λK=>uF σ d rs j a λvs ms=>Φ vs ms K):=by
 induction rs with
 |nil=>intro j a Φ h;exact h [] []
 |cons y r ih=>
  intro j a Φ h;simp only[qL];split
  ·split
   ·simp_all
   ·split
    ·simp_all
    ·exact Det.false
  ·split
   ·simp_all
   ·split
    ·simp_all
    ·exact Det.false
  ·exact MB
theorem dK3(σ:St)(d:Nat)(b:Option (Nat×Nat))(r:V)(f:List Mod->List Mod):Det (λK=>zZ σ d b r λv a=>K v (f a)):=by
 unfold zZ;split
 ·exact bQ5 _ _ _ _ _ (λvs a K=>K (.agg vs) (f a)) λvs a=>Det.ret _ _
 ·exact bQ5 _ _ _ _ _ (λvs a K=>K (.tup vs) (f a)) λvs a=>Det.ret _ _
 ·refine bQ5 _ _ _ _ _ (λvs a K=>match vs with|v::_=>K v (f a)| [] =>False) λvs a=>?_
  cases vs with
  |nil=>exact Det.false
  |cons v r=>exact Det.ret _ _
theorem bT4{ar:Nat->Option AE}{ok:List Nat}{N:Nat}{a:AK}{e:TypeId}{l:List V}{x:V}{Φ:V->Mod->VK->Prop}(h:∀v m,Det (Φ v m)):Det (λK=>xO ar ok N a e l x λv m=>Φ v m K):=by
 unfold xO;split
 ·split
  ·split
   ·exact h _ _
   ·exact Det.false
  ·split
   ·exact h _ _
   ·exact Det.false
 ·split
  ·exact h _ _
  ·exact Det.false
theorem aR4(ar:Nat->Option AE)(is ok:List Nat)(ys:List V):∀(xs:List V) (N:Nat) (Φ:List V->List Mod->VK->Prop),(∀vs ms,Det (Φ vs ms))->Det (λK=>oJ ar is ok ys xs N λvs ms=>Φ vs ms K):=by
 induction ys with
 |nil=>
  intro xs N Φ h
  cases xs with
  |nil=>exact h [] []
  |cons x r=>exact Det.false
 |cons y r ih=>
  intro xs N Φ h
  cases xs with
  |nil=>exact Det.false
  |cons x xr=>
   simp only[zL];split
   ·simp_all [bT4]
   ·simp_all [bT4]
   ·exact MB
theorem bO6(bx:Nat->Option (List V))(ar:Nat->Option AE)(c ok:List Nat)(bs:List (List V)):∀(is:List Nat) (N:Nat) (Φ:List Mod->VK->Prop),(∀a,Det (Φ a))->Det (λK=>aB3 bx ar c ok bs is N λa=>Φ a K):=by
 induction bs with
 |nil=>
  intro is N Φ h
  cases is with
  |nil=>exact h []
  |cons x r=>exact Det.false
 |cons b r d=>
  intro is N Φ h
  cases is with
  |nil=>exact Det.false
  |cons i e=>
   simp only[aJ1];split
   ·simp_all [aR4]
   ·exact Det.false
theorem dO0(bx:Nat->Option (List V))(ar:Nat->Option AE)(is ok:List Nat)(d:Nat)(r:V)(bs:List (List V))(f:List Mod->List Mod):Det (λK=>aX2 bx ar is ok d r bs λv a=>K v (f a)):=by
 unfold aX2;split
 ·exact aR4 _ _ _ _ _ _ (λvs a K=>aB3 bx ar is ok bs is (d+1000000) λns=>K (.tup vs) (f (appR a ns))) λvs a=>bO6 _ _ _ _ _ _ _ (λns K=>K _ _) λns=>Det.ret _ _
 ·refine aR4 _ _ _ _ _ _ (λvs a K=>match vs with|v::_=>aB3 bx ar is ok bs is (d+1000000) λns=>K v (f (appR a ns))| [] =>False) λvs a=>?_
  cases vs with
  |nil=>exact Det.false
  |cons v r=>exact bO6 _ _ _ _ _ _ _ (λns K=>K _ _) λns=>Det.ret _ _
theorem cJ6(T:Tab)(P:Program)(b:Md)(σ:St)(d:Nat)(f:FuncId)(xs:List V):Det (kY T P b σ d f xs):=by
 intro K h;rcases h.out with⟨ys,r,lend,p,o,i,c⟩|⟨q,ys,r,j,k,g,e,l,A,p,o,i,c,u,z,y⟩|⟨ys,is,bs,r,t,q,p,o,i,c⟩|⟨q,ys,n,p,o,i,c,u⟩
 case inr.inl=>exact⟨r,_,y,λs m=>⟨.inr (.inl ⟨q,ys,r,j,k,g,e,l,A,p,o,i,c,u,z,m⟩)⟩⟩
 case inr.inr.inr=>exact⟨_,_,u,λs m=>⟨.inr (.inr (.inr ⟨q,ys,n,p,o,i,c,m⟩))⟩⟩
 case inr.inr.inl=>
  obtain⟨v,a,x,w⟩:=dO0 σ.bx σ.ar is (ownG ((xs,ys)::eU σ.bx bs is)) d r t (λa=>appR (aV σ (mF ((xs,ys)::eU σ.bx bs is))) (appR (aX σ (ownG ((xs,ys)::eU σ.bx bs is))) a)) K c;exact⟨v,a,x,λs m=>⟨.inr (.inr (.inl ⟨ys,is,bs,r,t,q,p,o,i,w s m⟩))⟩⟩
 obtain⟨v,a,x,w⟩:=dK3 σ d (reuse σ (bD ys xs)) r (λa=>appR (cond lend [] (aV σ (bK ys xs))) (appR (aX σ (bD ys xs)) a)) K c;refine⟨v,a,x,λs m=>?_⟩;refine⟨.inl ?_⟩;exact⟨ys,r,lend,p,o,i,w s m⟩
theorem bU4(T:Tab)(P:Program)(a:Md)(σ:St)(d:Nat)(i:Op):Det (bW T P a σ d i)\/(a= .free/\∃g t c l,∀K,bW T P a σ d i K=bV3 T g t c l K):=by
 unfold bW;split
 ·exact .inl (Det.bJ λxs=>cJ6 _ _ _ _ _ _ _)
 ·refine .inl ?_
  split
  ·exact Det.cond (Det.bJ λxs=>cJ6 _ _ _ _ _ _ _) Det.false
  ·exact Det.false
 ·refine .inl ?_
  have b:∀(e:St) (o:Op) (m:Mod),Det (λK=>opVC T e d o λv f=>K v (m::f)):=λe o m K h=>by
   obtain⟨v,f,n,j⟩:=bD9 T e d o _ h;exact⟨v,m::f,n,λp k=>j _ k⟩
  split
  ·split
   ·exact b _ _ _
   ·exact b _ _ _
   ·exact bD9 _ _ _ _
  ·exact bD9 _ _ _ _
 ·split
  ·exact .inr ⟨rfl,_,_,_,_,λK=>rfl⟩
  ·exact .inl (bD9 _ _ _ _)
 ·exact .inl (bD9 _ _ _ _)
theorem cH1(T:Tab)(P:Program)(hv:List (Nat×List Nat))(σ:St)(d:Nat)(a:Op):Det (bW T P (.drawn hv) σ d a):=by
 grind [bU4]
theorem aR8{T:Tab}{P:Program}{a:Md}{σ:St}{d:Nat}{f:Op}{g i:VK}(m:∀v e,g v e->i v e)(h:bW T P a σ d f g):bW T P a σ d f i:=by
 rcases bU4 T P a σ d f with n|⟨_,j,t,c,l,o⟩
 ·obtain⟨v,e,q,p⟩:=n g h;simp_all
 ·rw[o]at h⊢
  exact⟨h.c0,h.ty,h.kd,h.op,λb k=>m _ _ (h.out b k)⟩
def Is(v:V)(ms:List Mod):VK:=λv' ms'=>v'=v/\ms'=ms
def Mod.same(σ σ':St):Mod->Prop
 | .b i _=>σ'.bx i=σ.bx i
 | .a k _=>σ'.ar k=σ.ar k
def Mod.fresh(σ:St):Mod->Prop
 | .b i _=>σ.bx i=none
 | .a k _=>σ.ar k=none
def Mod.key(p:Nat->Prop)(q:Nat->Nat->Prop):Mod->Prop
 | .b i _=>p i
 | .a k _=>∃g,q k g
abbrev V.agr(σ σ':St)(x:V):Prop:=x.ok (λi=>σ'.bx i=σ.bx i) (λk _=>σ'.ar k=σ.ar k)
section
variable{T:Tab}{P:Program}{σ σ':St}{d:Nat}{v:V}{ms:List Mod}
theorem bJ6{cs:List V}(c:∀m∈ms,m.same σ σ')(h:lM σ d cs (Is v ms)):lM σ' d cs (Is v ms):=by
 unfold lM at*;split at h
 ·rename_i e
  have a:=h;rw[bC]at a;obtain⟨_,f⟩:=aT a;have:=c (.b d cs) (by rw[<-f.2];simp)
  rw[show σ'.bx d=none from this.trans e];exact h
 ·exact h.elim
theorem dW7{r:Row}{x:V}(a:x.agr σ σ')(h:pW r σ x (Is v ms)):pW r σ' x (Is v ms):=by
 unfold pW at*;exact QA
theorem dJ9{r:Row}{x y:V}(a:x.agr σ σ')(h:qU r σ x y (Is v ms)):qU r σ' x y (Is v ms):=by
 unfold qU at*;exact QA
theorem bO4{r:Row}{x i:V}(a:x.agr σ σ')(h:gI T r σ x i (Is v ms)):gI T r σ' x i (Is v ms):=by
 cases x<;>simp_all [V.agr,V.ok,gI]
theorem bS6{x:V}{K:List V->Prop}(a:x.agr σ σ')(h:lF σ x K):lF σ' x K:=by
 unfold lF at h;split at h
 ·exact h
 ·exact h
 ·exact h
 ·simp_all [V.agr,V.ok,lF]
 ·exact h.elim
theorem dA4{x:V}{K:List V->Prop}(a:x.agr σ σ')(h:lV σ x K):lV σ' x K:=by
 unfold lV at h;split at h
 ·exact h
 ·exact h
 ·exact h
 ·simp_all [V.agr,V.ok,lV]
 ·exact h.elim
theorem eN2{x:V}(a:x.agr σ σ')(h:aE9 σ x (Is v ms)):aE9 σ' x (Is v ms):=by
 unfold aE9 at h;split at h
 ·exact h
 ·exact h
 ·exact h
 ·simp_all [V.agr,V.ok,aE9]
 ·exact h.elim
theorem dK8{r:Row}{x:V}{lo hi a:Option V}(b:x.agr σ σ')(h:sZ T r σ x lo hi a (Is v ms)):sZ T r σ' x lo hi a (Is v ms):=by
 unfold sZ at*;split at h
 ·exact h
 ·rename_i e
  obtain⟨g,f⟩:=aT h;have c:=dA4 b f;rw[g];exact c
 ·exact h.elim
theorem aS7{place:Nat->Option (Nat×Nat)}{a:List (Nat×Operand)}:∀ {cs:List V} {K:List V->Prop},(∀p∈a,σ'.ev p.2=σ.ev p.2)->oI place σ a cs K->oI place σ' a cs K:=by
 induction a with
 |nil=>intro cs K _ h;exact h
 |cons p r b=>
  intro cs K c h;exact NT
theorem aU7{place:Nat->Option (Nat×Nat)}{b:List (Nat×Operand)}:∀ {cs:List V} {K:List V->Prop},oI place σ b cs K->∃a,K a:=by
 induction b with
 |nil=>intro cs K h;have c:bJ cs K:=h;rw[bC]at c;exact⟨_,c⟩
 |cons p r e=>
  intro cs K h;exact NT
theorem dM6{r:Row}{a:List (Nat×Operand)}(b:∀p∈a,σ'.ev p.2=σ.ev p.2)(h:vO T r σ a (Is v ms)):vO T r σ' a (Is v ms):=by
 unfold vO at*;split at h
 ·exact aS7 b h
 ·obtain⟨e,c⟩:=aT h
  rw[e];exact aS7 b c
 ·exact h.elim
theorem bB6{r:Row}{n:Nat}{a:List (Nat×Operand)}(j:∀p∈a,σ'.ev p.2=σ.ev p.2)(e:∀m∈ms,m.same σ σ')(h:iZ T r σ d n a (Is v ms)):iZ T r σ' d n a (Is v ms):=by
 unfold iZ at*;split at h
 ·rename_i b g
  obtain⟨k,c⟩:=aT h;obtain⟨i,f⟩:=aU7 c;obtain⟨_,_,h4⟩:=aT f;have:=e _ Bo;simp only[show σ'.ar d=none from this.trans g,b];rw[k];exact aS7 j c
 ·exact h.elim
theorem bN2{r:Row}{n c:V}(b:∀m∈ms,m.same σ σ')(h:jY T r σ d n c (Is v ms)):jY T r σ' d n c (Is v ms):=by
 unfold jY at*;split at h
 ·rename_i a e
  have f:=(dX h).2;obtain⟨_,_,h4⟩:=aT f;have:=b _ Bo
  simp only[show σ'.ar d=none from this.trans e,a];exact h
 ·exact h.elim
theorem eQ1{x:V}{K:List V->Prop}(h:lF σ x K):∃l,K l:=by
 unfold lF at h;grind [dX]
theorem eK7{x:V}{K:List V->Prop}(h:lV σ x K):∃l,K l:=by
 unfold lV at h;grind [dX]
theorem cS8{x:V}{K a:List V->Prop}(b:∀l,K l->a l)(h:lF σ x K):lF σ x a:=by
 unfold lF at*;grind [dX]
theorem contsK_p{k:Kd}{x:V}{K:List V->Prop}(h:contsK k σ x K):∃l,K l:=by
 unfold contsK at h;split at h
 ·exact eQ1 h
 ·exact⟨_,h⟩
 ·exact h.elim
theorem contsK_mono{k:Kd}{x:V}{K a:List V->Prop}(b:∀l,K l->a l)(h:contsK k σ x K):contsK k σ x a:=by
 unfold contsK at*;grind [cS8]
theorem loc_contsK{k:Kd}{x:V}{K:List V->Prop}(a:x.agr σ σ')(h:contsK k σ x K):contsK k σ' x K:=by
 unfold contsK at*;grind [bS6]
theorem cY6{r:Row}{a:Kd}{s x:V}(g:s.agr σ σ')(b:x.agr σ σ')(hm:∀m∈ms,m.same σ σ')(h:kT T r a σ d s x (Is v ms)):kT T r a σ' d s x (Is v ms):=by
 unfold kT at*;split at h
 ·rename_i c
  obtain⟨f,e⟩:=aT h;rw[f];refine loc_contsK b (contsK_mono (λxs h=>?_) e);split at h
  ·exact Kv
  ·exact Kv
  ·simp_all [V.agr,V.ok]
  ·exact h.elim
 ·exact h.elim
end
section
variable{T:Tab}{P:Program}{σ σ':St}{d:Nat}{v:V}{ms:List Mod}
theorem yL{a β:Type}{f g:a->β}{l:List a}(h:∀x∈l,f x=g x):mapR f l=mapR g l:=by
 grind [dU,SE]
theorem cL5{t:TypeId}(a:∀m∈ms,m.same σ σ')(h:oN T t σ d (Is v ms)):oN T t σ' d (Is v ms):=by
 unfold oN at*;split at h
 ·rename_i b
  obtain⟨c,_,h4⟩:=aT h;have:=a _ Bo;simp only[show σ'.ar d=none from this.trans b];exact h
 ·exact h.elim
theorem cX0{t:TypeId}{x y:V}(a:x.agr σ σ')(h:rG T t σ x y (Is v ms)):rG T t σ' x y (Is v ms):=by
 unfold rG at*;split at h
 ·simp_all [V.agr,V.ok]
 ·exact h
 ·exact h.elim
theorem aH2{t:TypeId}{x y z:V}(a:x.agr σ σ')(h:iE T t σ x y z (Is v ms)):iE T t σ' x y z (Is v ms):=by
 unfold iE at*;split at h
 ·simp_all [V.agr,V.ok]
 ·exact h.elim
theorem cW0{f:Op}(he:∀x∈f.operands,σ'.ev x=σ.ev x)(ha:1<cls f->∀x∈f.operands,(σ.ev x).agr σ σ')(e:∀m∈ms,m.same σ σ')(h:opVC T σ d f (Is v ms)):opVC T σ' d f (Is v ms):=by
 unfold opVC at h;split at h<;>unfold opVC<;>simp only
 ·rw[he _ Aj];exact h
 ·rw[he _ Aj];exact h
 ·rename_i c a b
  rw[he c Aj,he a Aj,he b Aj];exact h
 ·rw[he _ Aj];exact h
 ·rename_i x y _
  rw[he x Aj,he y Aj];exact h
 ·rw[he _ Aj];exact bJ6 e h
 ·obtain⟨h1,h2⟩:=aT h
  rw[h1];exact bJ6 e h2
 ·rw[he _ Aj];exact h
 ·rw[he _ Aj];exact h
 ·rename_i x
  obtain⟨h1,h2⟩:=aT h;rw[h1,he x Aj];exact dW7 (ha AO x Aj) h2
 ·rename_i x y
  obtain⟨h1,h2⟩:=aT h;rw[h1,he x Aj,he y Aj];exact dJ9 (ha AO x Aj) h2
 ·rename_i x y
  obtain⟨h1,h2⟩:=aT h;rw[h1,he x Aj,he y Aj];exact bO4 (ha AO x Aj) h2
 ·rename_i x y
  rw[he x Aj,he y Aj];exact h
 ·rw[he _ Aj];exact h
 ·exact h
 ·rename_i x xs
  have j:mapR σ'.ev (x::xs)=mapR σ.ev (x::xs):=by
   rw[dU,dU];refine SE λy k=>he y ?_;simp[Op.operands]at k⊢;exact k
  rw[j];exact h
 ·rename_i o
  obtain⟨h1,h2⟩:=aT h;rw[h1];refine dM6 (λp hp=>he p.2 ?_) h2;exact PN
 ·rename_i o
  obtain⟨h1,h2⟩:=aT h;rw[h1];refine bB6 (λp hp=>he p.2 ?_) e h2;exact PN
 ·rename_i x y
  obtain⟨h1,h2⟩:=aT h;rw[h1,he x Aj,he y Aj];exact bN2 e h2
 ·rename_i x lo hi i
  obtain⟨h1,h2⟩:=aT h
  have q:lo.map σ'.ev=lo.map σ.ev:=by
   cases lo with
   |none=>rfl
   |some y=>simp[he y Aj]
  have l:hi.map σ'.ev=hi.map σ.ev:=by
   cases hi with
   |none=>rfl
   |some y=>simp[he y Aj]
  have hx:i.map σ'.ev=i.map σ.ev:=by
   cases i with
   |none=>rfl
   |some y=>simp[he y Aj]
  rw[h1,he x Aj,q,l,hx];exact dK8 (ha AO x Aj) h2
 ·rename_i x
  rw[he x Aj];unfold aF1 at h⊢;split at h
  ·unfold convB at h⊢
   split at h
   ·rename_i n hx
    obtain⟨h1,h2⟩:=aT h;obtain⟨_,_,h4⟩:=dX h2;have:=e _ Bo;simp only[show σ'.ar d=none from this.trans n,hx];exact h
   ·exact h.elim
  ·obtain⟨h1,h2⟩:=aT h
   rw[h1];exact bS6 (ha AO x Aj) h2
  ·exact h
 ·rename_i x t
  obtain⟨h1,h2⟩:=aT h;rw[h1,he x AZ];split at h2
  ·exact eN2 (ha AO x AZ) h2
  ·exact h2
  ·exact h2.elim
 ·rename_i s x t r
  obtain⟨h1,h2⟩:=aT h;rw[h1,he x AZ,he s AZ];exact cY6 (ha AO s AZ) (ha AO x AZ) e h2
 ·rw[yL (g:=σ.ev) λx hx=>he x Dp];exact h
 ·rw[yL (g:=σ.ev) λx hx=>he x Dp];exact h
 ·obtain⟨h1,h2⟩:=aT h
  rw[h1];exact cL5 e h2
 ·rename_i t x y
  obtain⟨h1,h2⟩:=aT h;rw[h1,he x Aj,he y Aj];exact cX0 (ha AO x Aj) h2
 ·exact Lc
 ·exact Lc
 ·rw[he _ Aj];exact h
 ·exact h.elim
def Mo(R:List Mod->Prop)(Φ:VK->Prop):Prop:=∀K,Φ K->∃v ms,K v ms/\R ms
variable{R:List Mod->Prop}
theorem Mo.ret(v:V){ms:List Mod}(h:R ms):Mo R (λK=>K v ms):=λ_ a=>⟨v,ms,a,h⟩
theorem Mo.false:Mo R (λ_=>False):=λ_ h=>h.elim
theorem Mo.need{p:Prop}{Φ:VK->Prop}(h:p->Mo R Φ):Mo R (λK=>need p (Φ K)):=λK a=>h (dX a).1 K (dX a).2
theorem Mo.arith{k:IntKind}{n:Int}{Φ:Int->VK->Prop}(h:∀m,Mo R (Φ m)):Mo R (λK=>arith k n λm=>Φ m K):=λK a=>h _ K (wI a)
theorem Mo.idx{l:List V}{i:Nat}{Φ:V->VK->Prop}(h:∀x,Mo R (Φ x)):Mo R (λK=>idx l i λx=>Φ x K):=λK a=>by
 obtain⟨x,b,a⟩:=cO3 a;exact h x K a
theorem Mo.bytes{xs:List V}{Φ:List Int->VK->Prop}(h:∀ns,Mo R (Φ ns)):Mo R (λK=>aZ0 xs λns=>Φ ns K):=λK a=>by
 obtain⟨ns,b,a⟩:=cC4 a;exact h ns K a
theorem Mo.force{x:V}{Φ:V->VK->Prop}(h:∀x,Mo R (Φ x)):Mo R (λK=>force x λy=>Φ y K):=λK b=>by
 have a:Ab.force x (λy=>Φ y K):=b;rw[force_eq]at a;exact h x K a
theorem Mo.bJ{l:List V}{Φ:List V->VK->Prop}(h:∀l,Mo R (Φ l)):Mo R (λK=>bJ l λy=>Φ y K):=λK b=>by
 have a:Ab.bJ l (λy=>Φ y K):=b;rw[bC]at a;exact h l K a
theorem Mo.cond{b:Bool}{Φ a:VK->Prop}(h:Mo R Φ)(c:Mo R a):Mo R (λK=>cond b (Φ K) (a K)):=by
 cases b
 ·exact c
 ·exact h
theorem Mo.branch{b:Bool}{Φ a:VK->Prop}(h:Mo R Φ)(c:Mo R a):Mo R (λK=>branch b (Φ K) (a K)):=by
 cases b
 ·exact c
 ·exact h
theorem Mo.lF{x:V}{Φ:List V->VK->Prop}(h:∀l,Mo R (Φ l)):Mo R (λK=>lF σ x λl=>Φ l K):=λK a=>by
 obtain⟨l,b⟩:=eQ1 (K:=λl=>Φ l K) a;exact h l K b
theorem Mo.contsK{k:Kd}{x:V}{Φ:List V->VK->Prop}(h:∀l,Mo R (Φ l)):Mo R (λK=>contsK k σ x λl=>Φ l K):=λK a=>by
 obtain⟨l,b⟩:=contsK_p (K:=λl=>Φ l K) a;exact h l K b
theorem Mo.lV{x:V}{Φ:List V->VK->Prop}(h:∀l,Mo R (Φ l)):Mo R (λK=>lV σ x λl=>Φ l K):=λK a=>by
 obtain⟨l,b⟩:=eK7 (K:=λl=>Φ l K) a;exact h l K b
theorem Mo.bound{o:Option V}{b:Int}{Φ:Int->VK->Prop}(h:∀n,Mo R (Φ n)):Mo R (λK=>bound o b λn=>Φ n K):=λK a=>by
 unfold Ab.bound at a;split at a
 ·exact h _ K a
 ·exact h _ K a
 ·exact a.elim
theorem rM(a:R [])(r:Row)(cs:List V):Mo R (wB r cs):=by
 unfold wB
 cases r.agg with
 |true=>exact Mo.bJ λl=>Mo.cond (Mo.ret _ a) Mo.false
 |false=>
  cases cs with
  |nil=>exact Mo.false
  |cons x r=>exact Mo.force λv=>Mo.ret _ a
theorem Mo.oI{a:Nat->Option (Nat×Nat)}{c:List (Nat×Operand)}{cs:List V}{Φ:List V->VK->Prop}(h:∀l,Mo R (Φ l)):Mo R (λK=>oI a σ c cs λl=>Φ l K):=λK b=>by
 obtain⟨l,e⟩:=aU7 (K:=λl=>Φ l K) b;exact h l K e
theorem bS7(c:∀cs,σ.bx d=none->R [.b d cs])(cs:List V):Mo R (lM σ d cs):=by
 unfold lM;split
 ·rename_i a
  exact Mo.bJ λl=>Mo.cond (Mo.ret _ (c l a)) Mo.false
 ·exact Mo.false
def Fr1(σ:St)(op:Op)(m:Mod):Prop:=m.fresh σ\/(4<=cls op/\∀p q,(∀x∈op.operands,(σ.ev x).ok p q)->m.key p q)
theorem bY1(T:Tab)(σ:St)(d:Nat)(o:Op):Mo (λms=>∀m∈ms,Fr1 σ o m) (opVC T σ d o):=by
 have hn:∀m∈([] :List Mod),Fr1 σ o m:=λm hm=>H8;have h1:∀e:Mod,Fr1 σ o e->∀m∈[e],Fr1 σ o m:=λe hm m h=>by cases QI.1 h;exact hm
 unfold opVC;split
 ·exact Mo.force λv=>Mo.ret _ hn
 ·exact Mo.force λv=>Mo.ret _ hn
 ·unfold bA8
  split
  ·exact Mo.branch (Mo.force λv=>Mo.ret _ hn) (Mo.force λv=>Mo.ret _ hn)
  ·exact Mo.false
 ·unfold unVC
  split
  ·exact Mo.ret _ hn
  ·exact Mo.arith λm=>Mo.ret _ hn
  ·exact Mo.false
 ·unfold bD7
  split
  ·refine Mo.cond ?_ ?_
   ·unfold cM6
    split<;>first|exact Mo.arith λm=>Mo.ret _ hn|exact Mo.need (λhp=>Mo.arith λm=>Mo.ret _ hn)|exact Mo.need (λhp=>Mo.ret _ hn)|exact Mo.ret _ hn|exact Mo.false
   ·unfold shVC
    split<;>first|exact Mo.need (λhp=>Mo.arith λm=>Mo.ret _ hn)|exact Mo.need (λhp=>Mo.ret _ hn)|exact Mo.false
  ·unfold cH0
   split<;>first|exact Mo.need (λhp=>Mo.ret _ hn)|exact Mo.ret _ hn|exact Mo.false
  ·refine Mo.cond ?_ Mo.false
   unfold bG1;split<;>first|exact Mo.ret _ hn|exact Mo.false
  ·refine Mo.cond ?_ Mo.false
   unfold aL1;split
   ·exact Me
   ·exact Me
   ·exact Mo.false
  ·refine Mo.cond ?_ Mo.false
   unfold ptrVC;split<;>first|exact Mo.ret _ hn|exact Mo.false
  ·exact Mo.false
 ·exact bS7 (σ:=σ) (d:=d) (λcs c=>h1 (.b d cs) (.inl c)) _
 ·exact Mo.cond (bS7 (σ:=σ) (d:=d) (λcs c=>h1 (.b d cs) (.inl c)) _) Mo.false
 ·refine Mo.cond ?_ Mo.false
  unfold jB;split
  ·refine Mo.cond Mo.false ?_
   split
   ·exact Mo.ret _ hn
   ·exact Mo.bJ λl=>Mo.ret _ hn
   ·exact Mo.ret _ hn
   ·exact Mo.false
  ·exact Mo.false
 ·refine Mo.cond ?_ Mo.false
  unfold aM2;split
  ·exact Mo.cond (rM hn _ _) Mo.false
  ·exact Mo.false
 ·refine Mo.cond ?_ Mo.false
  unfold pW;split
  ·split
   ·exact rM hn _ _
   ·exact Mo.false
  ·exact rM hn _ _
  ·split
   ·exact Mo.need (λhp=>Mo.idx λx=>Mo.cond (rM hn _ _) Mo.false)
   ·exact Mo.false
  ·exact Mo.false
 ·refine Mo.cond ?_ Mo.false
  unfold qU;rename_i x0 y0;split
  ·rename_i i off hx
   split
   ·refine Mo.cond (Mo.bJ λl=>Mo.ret _ (h1 (.b i l) (.inr ⟨AO,λp q hok=>?_⟩))) Mo.false
    have:=hok x0 Aj;rw[hx]at this;simp only[V.ok]at this;exact this
   ·exact Mo.false
  ·rename_i k g sz i off hx
   split
   ·refine Mo.need (λhp=>Mo.idx λx=>Mo.cond (Mo.bJ λl=>Mo.ret _ (h1 (.a k _) (.inr ⟨AO,λp q hok=>?_⟩))) Mo.false)
    have:=hok x0 Aj;exact Qx
   ·exact Mo.false
  ·exact Mo.false
 ·refine Mo.cond ?_ Mo.false
  unfold gI;split
  ·split
   ·exact LJ
   ·exact LJ
   ·split
    ·exact Mo.need (λhp=>Mo.cond (Mo.ret _ hn) Mo.false)
    ·exact Mo.false
   ·exact Mo.false
  ·split
   ·exact Mo.cond (Mo.ret _ hn) Mo.false
   ·exact Mo.cond (Mo.bJ λl=>Mo.ret _ hn) Mo.false
   ·exact Mo.false
  ·exact Mo.false
 ·refine Mo.cond ?_ Mo.false
  unfold aM6;split
  ·exact Mo.need (λhp=>Mo.ret _ hn)
  ·exact Mo.cond (rM hn _ _) Mo.false
  ·exact Mo.false
 ·unfold wZ
  split
  ·split
   ·exact Mo.force λv=>Mo.ret _ hn
   ·exact Mo.false
  ·exact Mo.false
 ·exact Mo.ret _ hn
 ·exact Mo.bJ λxs=>Mo.ret _ hn
 ·refine Mo.cond ?_ Mo.false
  unfold vO;split
  ·exact Mo.oI (Φ:=λcs K=>K (.agg cs) []) λl=>Mo.ret _ hn
  ·exact Mo.cond (Mo.oI (Φ:=λcs K=>K (.agg cs) []) λl=>Mo.ret _ hn) Mo.false
  ·exact Mo.false
 ·refine Mo.cond ?_ Mo.false
  unfold iZ;split
  ·rename_i hd
   refine Mo.cond ?_ Mo.false;exact Mo.oI (Φ:=λcs K=>cond (allR V.atom cs) (K _ _) False) λl=>Mo.cond (Mo.ret _ (h1 (.a d _) (.inl hd))) Mo.false
  ·exact Mo.false
 ·refine Mo.cond ?_ Mo.false
  unfold jY;split
  ·rename_i hd _ _
   exact Mo.need (λhp=>Mo.cond (Mo.ret _ (h1 (.a d _) (.inl hd))) Mo.false)
  ·exact Mo.false
 ·refine Mo.cond ?_ Mo.false
  unfold sZ;split
  ·split
   ·exact Mo.bound (Φ:=λl K=>bound _ _ λh=>need _ (K _ _)) λl=>Mo.bound (Φ:=λh K=>need _ (K _ _)) λh=>Mo.need (λhp=>Mo.ret _ hn)
   ·exact Mo.false
  ·refine Mo.cond ?_ Mo.false
   refine Mo.lV λxs=>Mo.bound λl=>Mo.bound λh=>?_;split
   ·exact Mo.need (λhp=>Mo.ret _ hn)
   ·split
    ·exact Mo.false
    ·exact Mo.bound λm=>Mo.need (λhp=>Mo.ret _ hn)
  ·exact Mo.false
 ·unfold aF1
  split
  ·unfold convB
   split
   ·rename_i hd _
    exact Mo.cond (Mo.need λhp=>Mo.ret _ (h1 (.a d _) (.inl hd))) Mo.false
   ·exact Mo.false
  ·exact Mo.cond (Mo.lF λxs=>Mo.bytes λns=>Mo.ret _ hn) Mo.false
  unfold bE4;split
  ·exact Mo.arith λm=>Mo.ret _ hn
  ·exact Mo.ret _ hn
  ·exact Mo.false
 ·refine Mo.cond ?_ Mo.false
  split
  ·unfold aE9
   split<;>first|exact Mo.ret _ hn|exact Mo.false|(split<;>first|exact Mo.need (λhp=>Mo.ret _ hn)|exact Mo.false)
  ·unfold aI4
   split<;>first|exact Mo.ret _ hn|exact Mo.false
  ·exact Mo.false
 ·refine Mo.cond ?_ Mo.false
  unfold kT;rename_i f x0 t0 j;split
  ·refine Mo.cond ?_ Mo.false
   refine Mo.contsK λxs=>?_;split
   ·exact Lp
   ·exact Lp
   ·rename_i k g hx
    split
    ·refine Mo.need λhp=>Mo.ret _ (h1 (.a k _) (.inr ⟨AO,λp q hok=>?_⟩))
     have:=hok f AZ;exact Qx
    ·exact Mo.false
   ·exact Mo.false
  ·exact Mo.false
 ·unfold rP
  split<;>first|exact Mo.ret _ hn|exact Mo.false
 ·unfold rP
  split<;>first|exact Mo.ret _ hn|exact Mo.false
 ·refine Mo.cond ?_ Mo.false
  unfold oN;split
  ·rename_i hd
   exact Mo.cond (Mo.ret _ (h1 (.a d _) (.inl hd))) Mo.false
  ·exact Mo.false
 ·refine Mo.cond ?_ Mo.false
  unfold rG;split
  ·split
   ·split
    ·refine Mo.need λhp=>Mo.cond ?_ Mo.false
     exact Qg
    ·exact Mo.false
   ·exact Mo.false
  ·split
   ·refine Mo.cond ?_ Mo.false
    exact Qg
   ·exact Mo.false
  ·exact Mo.false
 ·exact Jf
 ·exact Jf
 ·exact Mo.cond (Mo.force λv=>Mo.ret _ hn) Mo.false
 ·exact Mo.false
theorem bQ1{rs:List V}:∀ {j:Nat} {K:List V->List Mod->Prop},uF σ d rs j none K->∃vs ms,K vs ms/\(∀m∈ms,m.fresh σ)/\∀σ':St,(∀m∈ms,m.same σ σ')->∀K':List V->List Mod->Prop,K' vs ms->uF σ' d rs j none K':=by
 induction rs with
 |nil=>intro j K h;exact⟨[],[],h,Ae,λσ' _ K' h=>h⟩
 |cons y r ih=>
  intro j K h;rw[qL]at h;split at h
  ·exact Ji
  ·exact Ji
  ·grind [force_eq,qL]
theorem bO7{r:V}{K:VK}(h:zZ σ d none r K):∃v ms,K v ms/\(∀m∈ms,m.fresh σ)/\∀σ':St,(∀m∈ms,m.same σ σ')->∀a:VK,a v ms->zZ σ' d none r a:=by
 unfold zZ at h;split at h<;>grind [bQ1,zZ]
theorem cI2{x y:V}(a:x.agr σ σ')(h:yH σ.ar x y):yH σ'.ar x y:=by
 unfold yH at*;cases y<;>simp only at h⊢
 case sl l=>
  exact OC
 all_goals exact h
theorem dS6{ys:List V}:∀ {xs:List V},V.okL (λi=>σ'.bx i=σ.bx i) (λk _=>σ'.ar k=σ.ar k) xs->cN9 σ.ar ys xs->cN9 σ'.ar ys xs:=by
 induction ys with
 |nil=>intro xs _ h;exact h
 |cons y r b=>
  intro xs a h
  cases xs with
  |nil=>exact h
  |cons x xr=>
   simp only[V.okL]at a;exact⟨cI2 a.1 h.1,b a.2 h.2⟩
theorem eH3{x y:V}(a:x.agr σ σ')(h:wU T σ.ar x y):wU T σ'.ar x y:=by
 unfold wU at*;cases y<;>simp only at h⊢
 case own e l=>
  exact OC
 case ap e l=>
  exact OC
 case agg ys=>
  cases x<;>simp only at h⊢
  case agg xs=>
   simp only[V.agr,V.ok]at a;exact dS6 a h
 all_goals exact cI2 a h
theorem dL6{ys:List V}:∀ {xs:List V},(∀x∈xs,x.agr σ σ')->iQ T σ.ar ys xs->iQ T σ'.ar ys xs:=by
 induction ys with
 |nil=>intro xs _ h;exact h
 |cons y r b=>
  intro xs a h
  cases xs with
  |nil=>exact h
  |cons x xr=>exact⟨eH3 (a x Ae) h.1,b (λz hz=>a z Ip) h.2⟩
theorem yX{hv:List (Nat×List Nat)}(n:hvOf hv d=none){f:FuncId}{xs:List V}{K:VK}(h:kY T P (.drawn hv) σ d f xs K):∃v ms,K v ms/\(∀m∈ms,m.fresh σ)/\∀σ':St,(∀x∈xs,x.agr σ σ')->(∀m∈ms,m.same σ σ')->∀b:VK,b v ms->kY T P (.drawn hv) σ' d f xs b:=by
 rcases h.out with⟨ys,r,lend,y,q,w,e⟩|⟨a,_⟩|⟨_,_,_,_,_,a,_⟩|⟨a,_⟩
 case inr.inl=>cases a
 case inr.inr.inr=>cases a
 case inr.inr.inl=>
  unfold Md.may at a;simp only[n]at a;cases a
 have hc:=q;simp only[sO,Md.light,QN,SG,Ud]at hc
 have g:bD ys xs=[] :=by
  grind [SX,iL,Rn]
 have k:∀σ:St,cond lend [] (aV σ (bK ys xs))=[] :=λσ=>KQ
 have l:∀(σ:St) (ms:List Mod),appR (cond lend [] (aV σ (bK ys xs))) (appR (aX σ (bD ys xs)) ms)=ms:=λσ ms=>by
  rw[k,g];rfl
 have c:∀σ:St,reuse σ (bD ys xs)=none:=λσ=>by rw[g];rfl
 simp only[l,c]at e;obtain⟨v,ms,o,j,t⟩:=bO7 e;refine⟨v,ms,o,j,λσ' u s b i=>?_⟩;refine⟨.inl ?_⟩;grind [dL6]
theorem cJ1{m:Md}{f:FuncId}{xs:List V}{K:VK}(b:σ'.bx=σ.bx)(c:σ'.ar=σ.ar)(h:kY T P m σ d f xs K):kY T P m σ' d f xs K:=by
 obtain⟨env,bx,ar⟩:=σ;obtain⟨a,e,g⟩:=σ';simp only at b c;subst b c;exact⟨h.out⟩
def hvy(hv:List (Nat×List Nat))(d:Nat)(op:Op):Bool:=aG7 op&&isS (hvOf hv d)
theorem aN7{hv:List (Nat×List Nat)}{a:Op}(h:hvy hv d a=false)(b:aG7 a=true):hvOf hv d=none:=by
 unfold hvy at h;rw[b,Bool.true_and]at h;unfold isS at h;grind
theorem aO9{hv:List (Nat×List Nat)}{j:Op}(s:hvy hv d j=true->σ'.bx=σ.bx/\σ'.ar=σ.ar)(l:∀x∈j.operands,σ'.ev x=σ.ev x)(k:1<cls j->∀x∈j.operands,(σ.ev x).agr σ σ')(q:∀m∈ms,m.same σ σ')(h:bW T P (.drawn hv) σ d j (Is v ms)):bW T P (.drawn hv) σ' d j (Is v ms):=by
 unfold bW at h;split at h<;>unfold bW
 ·rename_i f i H
  have e:mapR σ'.ev i=mapR σ.ev i:=yL λx hx=>l x Dp;rw[bC]at h;simp only;rw[bC,e]
  cases a:hvy hv d (.call ⟨.value (.func f),⟨i⟩,H⟩)with
  |true=>exact cJ1 (s a).1 (s a).2 h
  |false=>
  obtain⟨v',D,⟨rfl,rfl⟩,J,u⟩:=yX (aN7 a rfl) h;refine u σ' ?_ q _ ⟨rfl,rfl⟩;intro x hx;rw[dU]at hx;obtain⟨y,hy,rfl⟩:=QZ.1 hx;exact k AO y Hf
 ·rename_i t i H
  have e:mapR σ'.ev i=mapR σ.ev i:=yL λx hx=>l x Dp;have E:σ'.env t=σ.env t:=l (.tmp t) AZ
  simp only;rw[E];split at h
  ·rename_i g I A
   obtain⟨F,h⟩:=aT h;rw[F];simp only[SG];rw[bC]at h;rw[bC,e]
   cases a:hvy hv d (.call ⟨.value (.tmp t),⟨i⟩,H⟩)with
   |true=>exact cJ1 (s a).1 (s a).2 h
   |false=>
   obtain⟨v',D,⟨rfl,rfl⟩,J,u⟩:=yX (aN7 a rfl) h;refine u σ' ?_ q _ ⟨rfl,rfl⟩;intro x hx;rw[dU]at hx;rcases(argsV_mem hx).symm with hx|hx
   ·obtain⟨y,hy,rfl⟩:=QZ.1 hx
    exact k AO y Hf
   ·have C:=k AO (.tmp t) AZ
    have b:(σ.env t).agr σ σ':=C;rw[A]at b;simp only[V.agr,V.ok]at b;exact aH.1 b x hx
  ·exact h.elim
 ·rename_i t x lo hi L
  have B:opVC T σ d (.slice t (.tmp x) lo hi L) (Is v ms):=KR;have G:=cW0 l k q B
  simp only;exact G
 ·rename_i w t x c K
  have B:opVC T σ d (.binOp w t (.tmp x) (.const c) K) (Is v ms):=KR;have G:=cW0 l k q B
  simp only;exact G
 ·rename_i z n o r
  split
  ·exact(z _ _ _ rfl).elim
  ·exact(n _ _ _ rfl).elim
  ·exact(o _ _ _ _ _ rfl).elim
  ·exact(r _ _ _ _ _ rfl).elim
  ·exact cW0 l k q h
theorem bQ4{hv:List (Nat×List Nat)}{a:Op}(hh:hvy hv d a=false)(h:bW T P (.drawn hv) σ d a (Is v ms)):∀m∈ms,Fr1 σ a m:=by
 unfold bW at h;split at h
 ·rw[bC]at h
  exact Pz
 ·split at h
  ·obtain⟨_,h⟩:=aT h
   rw[bC]at h;exact Pz
  ·exact h.elim
 ·rename_i t x lo hi f
  have h1:opVC T σ d (.slice t (.tmp x) lo hi f) (Is v ms):=KR;exact Qc
 ·rename_i b t x c e
  have h1:opVC T σ d (.binOp b t (.tmp x) (.const c) e) (Is v ms):=KR;exact Qc
 ·obtain⟨v',ms',⟨rfl,rfl⟩,q⟩:=bY1 T σ d _ _ h
  exact q
end
def Eff(T:Tab)(P:Program)(hv:List (Nat×List Nat))(n:Nat)(ops:List Oper)(o:Oper)(σ:St)(v:V)(ms:List Mod):Prop:=
 (∀d,o.dst=some d->d<n)/\match o.guard with
 |none=>bW T P (.drawn hv) σ (o.dst.getD n) o.op (Is v ms)
 |some (j,want)=>∃s,tV ops j=some s/\
  ((σ.env s= .lit (.bool want)/\bW T P (.drawn hv) σ (o.dst.getD n) o.op (Is v ms))\/((σ.env s= .lit (.bool !want)\/∃cs,σ.env s= .tup cs)/\v= .tup []/\ms=[]))
section
variable{T:Tab}{P:Program}{σ σ':St}{n d:Nat}{v:V}{ms:List Mod}{ops:List Oper}{o p:Oper}{K:St->Prop}{hv:List (Nat×List Nat)}
theorem eI5(h:Step T P (.drawn hv) n ops o σ K):∃v ms,Eff T P hv n ops o σ v ms/\K (σ.put o.dst v ms):=by
 unfold Step at h;unfold Eff;split at h
 ·rename_i k
  simp only[k];rcases h with⟨g,f⟩|⟨m,_⟩|⟨m,_⟩
  case inr.inl=>cases m
  case inr.inr=>cases m
  obtain⟨v,ms,q,l⟩:=cH1 _ _ _ _ _ _ _ f;exact⟨v,ms,⟨g,l _ ⟨rfl,rfl⟩⟩,q⟩
 ·rename_i j e k
  simp only[k];obtain⟨s,g,f,r⟩:=h;rcases r with⟨b,i,c⟩|⟨cs,i,c⟩
  ·split at c
   ·rename_i a
    subst a;obtain⟨v,ms,q,l⟩:=cH1 _ _ _ _ _ _ _ c;exact⟨v,ms,⟨f,s,g, .inl ⟨i,l _ ⟨rfl,rfl⟩⟩⟩,q⟩
   ·rename_i a
    refine⟨_,_,⟨f,s,g, .inr ⟨.inl ?_,rfl,rfl⟩⟩,c⟩;rw[i];cases b<;>cases e<;>simp_all
  ·exact⟨_,_,⟨f,s,g, .inr ⟨.inr ⟨cs,i⟩,rfl,rfl⟩⟩,c⟩
theorem eE8(h:Eff T P hv n ops o σ v ms)(k:K (σ.put o.dst v ms)):Step T P (.drawn hv) n ops o σ K:=by
 unfold Eff at h;unfold Step;obtain⟨l,i⟩:=h;split at i
 ·rename_i f
  simp only[f];exact .inl ⟨l,aR8 (λv' e ⟨g,c⟩=>by rw[g,c];exact k) i⟩
 ·rename_i j a f
  simp only[f];obtain⟨s,q,b⟩:=i;refine⟨s,q,l,?_⟩;rcases b with⟨b,m⟩|⟨b,rfl,rfl⟩
  ·refine .inl ⟨a,b,?_⟩
   rw[Q9 rfl];exact aR8 (λv' e ⟨g,c⟩=>by rw[g,c];exact k) m
  ·grind
theorem aP3(h:hvO hv o=false):hvy hv (o.dst.getD n) o.op=false:=by
 unfold hvO at h;unfold hvy
 cases b:aG7 o.op with
 |false=>rfl
 |true=>
  rw[b,Bool.true_and]at h
  cases a:o.dst with
  |some d=>rw[a]at h;simpa using h
  |none=>
   rw[a]at h
   cases hv with
   |nil=>rfl
   |cons p r=>simp at h
theorem cO7(c:hvO hv o=false)(h:Eff T P hv n ops o σ v ms):∀m∈ms,Fr1 σ o.op m:=by
 unfold Eff at h;obtain⟨i,b⟩:=h;split at b
 ·exact bQ4 (aP3 c) b
 ·obtain⟨s,g,a⟩:=b
  rcases a with⟨a,f⟩|⟨a,rfl,rfl⟩
  ·exact bQ4 (aP3 c) f
  ·intro m e;cases e
theorem mW(b:hvO hv o=true->σ'.bx=σ.bx/\σ'.ar=σ.ar)(he:∀t∈o.looksAt ops.toArray,σ'.env t=σ.env t)(k:1<cls o.op->∀x∈o.op.operands,(σ.ev x).agr σ σ')(j:∀m∈ms,m.same σ σ')(h:Eff T P hv n ops o σ v ms):Eff T P hv n ops o σ' v ms:=by
 have c:∀x∈o.op.operands,σ'.ev x=σ.ev x:=by
  intro x hx;exact PV
 have i:hvy hv (o.dst.getD n) o.op=true->σ'.bx=σ.bx/\σ'.ar=σ.ar:=λa=>b (by
  cases e:hvO hv o with
  |true=>rfl
  |false=>rw[aP3 (n:=n) e]at a;cases a)
 unfold Eff at*;grind [aO9,uN,Oper.looksAt,tV]
theorem lT(σ:St)(d:Option Nat)(v:V)(ms:List Mod):(σ.put d v ms).bx=(σ.apps ms).bx:=by cases d<;>rfl
theorem nX(σ:St)(d:Option Nat)(v:V)(ms:List Mod):(σ.put d v ms).ar=(σ.apps ms).ar:=by cases d<;>rfl
theorem bU(σ:St)(d:Option Nat)(v:V)(ms:List Mod){t:Nat}(h:d≠some t):(σ.put d v ms).env t=σ.env t:=by
 cases d with
 |none=>show(σ.apps ms).env t=_;rw[vM]
 |some d=>show upd (σ.apps ms).env d v t=_;rw[upd_ne _ _ (λe=>h Il),vM]
theorem pI(σ:St)(d:Nat)(v:V)(ms:List Mod):(σ.put (some d) v ms).env d=v:=upd_same _ _ _
theorem put_comm{d b:Option Nat}{v v':V}{ms a:List Mod}(r:∀t,d=some t->b≠some t)(k:∀i,(∃m∈ms,m.isB i)->∀m∈a,¬m.isB i)(q:∀i,(∃m∈ms,m.isA i)->∀m∈a,¬m.isA i):
 (σ.put d v ms).put b v' a=(σ.put b v' a).put d v ms:=by
 have u:((σ.put d v ms).put b v' a).env=((σ.put b v' a).put d v ms).env:=by
  funext t;by_cases e:d=some t
  ·grind [bU,pI]
  ·rw[bU _ d _ _ e]
   by_cases c:b=some t
   ·subst c;rw[pI,pI]
   ·grind [bU]
 have s:((σ.put d v ms).put b v' a).bx=((σ.put b v' a).put d v ms).bx:=by
  funext i;rw[lT,lT];by_cases e:∃m∈ms,m.isB i
  ·grind [jJ,lT,aI2]
  ·have c:∀m∈ms,¬m.isB i:=λm f g=>e ⟨m,f,g⟩
   rw[jJ ms i _ c,lT];exact aI2 a i _ _ (.inr (by rw[lT,jJ ms i _ c]))
 have l:((σ.put d v ms).put b v' a).ar=((σ.put b v' a).put d v ms).ar:=by
  funext i;rw[nX,nX];by_cases e:∃m∈ms,m.isA i
  ·grind [lW,nX,aI9]
  ·have c:∀m∈ms,¬m.isA i:=λm f g=>e ⟨m,f,g⟩
   rw[lW ms i _ c,nX];exact aI9 a i _ _ (.inr (by rw[nX,lW ms i _ c]))
 generalize (σ.put d v ms).put b v' a=h at*;generalize (σ.put b v' a).put d v ms=j at*;cases h;cases j<;>simp_all
end
section
variable{T:Tab}{P:Program}{σ σ':St}{n d:Nat}{v v':V}{ms ms':List Mod}{ops:List Oper}{o p:Oper}{K:St->Prop}{hv:List (Nat×List Nat)}
theorem bA1{a b:Nat}(h:clash a b=false)(e:4<=a)(c:1<b):False:=LU
theorem dE0{a b:Nat}(h:clash a b=false)(e:4<=b)(c:1<a):False:=LU
theorem swap(W:∀x:Operand,(σ.ev x).ok σ.hasB σ.hasA)(O:Oper.apart ops.toArray p o=true)(r:clash (clsH hv p) (clsH hv o)=false)
 (Y:Eff T P hv n ops p σ v ms)(Z:Eff T P hv n ops o (σ.put p.dst v ms) v' ms'):
 Eff T P hv n ops o σ v' ms'/\Eff T P hv n ops p (σ.put o.dst v' ms') v ms/\(σ.put p.dst v ms).put o.dst v' ms'=(σ.put o.dst v' ms').put p.dst v ms:=by
 obtain⟨S,aa,ab⟩:=TP O
 have hnp:hvO hv p=false:=by
  cases hq:hvO hv p<;>simp_all [clsH,clash]
 have hno:hvO hv o=false:=by
  cases hq:hvO hv o<;>simp_all [clsH,clash]
 replace r:clash (cls p.op) (cls o.op)=false:=by
  unfold clsH at r;rw[hnp,hno]at r;exact r
 have U:=cO7 hnp Y;have R:=cO7 hno Z
 generalize z:σ.put p.dst v ms=l at*
 have Q:∀x∈o.op.operands,l.ev x=σ.ev x:=by
  intro x hx
  cases x with
  |tmp t=>
   show l.env t=σ.env t;rw[<-z];refine bU _ _ _ _ (λe=>S t e ?_);exact OT
  |const v=>rfl
  |global g=>rfl
  |func f=>rfl
 have B:∀m∈ms,m.fresh σ\/(4<=cls p.op/\m.key σ.hasB σ.hasA):=λm q=>by
  rcases U m q with h|⟨h,c⟩
  ·exact .inl h
  ·exact .inr ⟨h,c _ _ λx _=>W x⟩
 have C:∀m∈ms',m.fresh l\/(4<=cls o.op/\m.key σ.hasB σ.hasA):=λm q=>by
  rcases R m q with h|⟨h,c⟩
  ·exact .inl h
  ·simp_all
 have L:l.bx=(σ.apps ms).bx:=by rw[<-z,lT]
 have M:l.ar=(σ.apps ms).ar:=by rw[<-z,nX]
 have F:∀i,σ.hasB i->l.bx i≠none:=λi ⟨cs,hi⟩=>by rw[L];exact aN6 _ _ _ (.inr (by rw[hi];simp))
 have G:∀k g,σ.hasA k g->l.ar k≠none:=λi g ⟨cs,hi,_⟩=>by rw[M];exact aO2 _ _ _ (.inr (by rw[hi];simp))
 have D:∀i,(∃m∈ms,m.isB i)->∀m∈ms',¬m.isB i:=by
  rintro i ⟨m,q,s⟩ H u A
  cases m with
  |a=>exact s
  |b j cs=>
  cases H with
  |a=>exact A
  |b j' X=>
  cases s;cases A;rcases C _ u with h|⟨h,N⟩
  ·exact absurd h (by show l.bx i≠none;rw[L];exact aN6 _ _ _ (.inl ⟨_,q,rfl⟩))
  ·rcases B _ q with c|⟨c,_⟩
   ·obtain⟨x,hx⟩:=N
    have w:σ.bx i=none:=c;rw[w]at hx;cases hx
   ·exact bA1 r c Aa
 have E:∀i,(∃m∈ms,m.isA i)->∀m∈ms',¬m.isA i:=by
  rintro i ⟨m,q,s⟩ H u A
  cases m with
  |b=>exact s
  |a j cs=>
  cases H with
  |b=>exact A
  |a j' X=>
  cases s;cases A;rcases C _ u with h|⟨h,N⟩
  ·exact absurd h (by show l.ar i≠none;rw[M];exact aO2 _ _ _ (.inl ⟨_,q,rfl⟩))
  ·rcases B _ q with c|⟨c,_⟩
   ·obtain⟨g,x,hx,_⟩:=N
    have w:σ.ar i=none:=c;rw[w]at hx;cases hx
   ·exact bA1 r c Aa
 refine⟨?_,?_,?_⟩
 ·refine mW (σ:=l) (λhq=>Es) ?_ ?_ ?_ Z
  ·grind [bU]
  ·intro J x hx
   rw[Q x hx];refine V.ok.imp ?_ ?_ _ (W x)
   ·intro i hi
    rw[L];refine(jJ _ _ _ ?_).symm;intro m q s
    cases m with
    |a=>exact s
    |b j cs=>
    cases s;rcases B _ q with c|⟨c,_⟩
    ·obtain⟨y,I⟩:=hi
     have w:σ.bx i=none:=c;rw[w]at I;cases I
    ·exact bA1 r c J
   ·intro i g hi
    rw[M];refine(lW _ _ _ ?_).symm;intro m q s
    cases m with
    |b=>exact s
    |a j cs=>
    cases s;rcases B _ q with c|⟨c,_⟩
    ·obtain⟨y,I,_⟩:=hi
     have w:σ.ar i=none:=c;rw[w]at I;cases I
    ·exact bA1 r c J
  ·intro m q
   cases m with
   |b i cs=>
    show σ.bx i=l.bx i;rw[L];exact(jJ _ _ _ (λH u s=>D i ⟨H,u,s⟩ _ q rfl)).symm
   |a i cs=>
    show σ.ar i=l.ar i;rw[M];exact(lW _ _ _ (λH u s=>E i ⟨H,u,s⟩ _ q rfl)).symm
 ·refine mW (σ:=σ) (λhq=>Et) ?_ ?_ ?_ Y
  ·grind [bU]
  ·intro J x hx
   refine V.ok.imp ?_ ?_ _ (W x)
   ·intro i hi
    rw[lT];refine jJ _ _ _ ?_;intro m q s
    cases m with
    |a=>exact s
    |b j cs=>
    cases s;rcases C _ q with c|⟨c,_⟩
    ·exact F i hi c
    ·exact dE0 r c J
   ·intro i g hi
    rw[nX];refine lW _ _ _ ?_;intro m q s
    cases m with
    |b=>exact s
    |a j cs=>
    cases s;rcases C _ q with c|⟨c,_⟩
    ·exact G i g hi c
    ·exact dE0 r c J
  ·intro m q
   cases m with
   |b i cs=>
    show(σ.put o.dst v' ms').bx i=σ.bx i;rw[lT];exact jJ _ _ _ (D i ⟨_,q,rfl⟩)
   |a i cs=>
    show(σ.put o.dst v' ms').ar i=σ.ar i;rw[nX];exact lW _ _ _ (E i ⟨_,q,rfl⟩)
 ·grind [put_comm]
end
end Go.Ab
