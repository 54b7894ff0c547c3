/- Lemmas. -/
import Derived.Test.YtcmgfjaiegpddaaGreatA6
set_option linter.all false
noncomputable section
namespace Go.Ab
def Det(Φ:VK->Prop):Prop:=∀K,Φ K->∃v ms,K v ms/\∀K',K' v ms->Φ K'
def Det.ret(v:V)(a:List Mod):Det (λK=>K v a):=λ_ h=>⟨v,a,h,λ_ h=>h⟩
def Det.false:Det (λ_=>False):=λ_ h=>h.elim
def Det.need{p:Prop}{Φ:VK->Prop}(h:Det Φ):Det (λK=>need p (Φ K)):=λK a=>by
 obtain⟨d,a⟩:=dX a;obtain⟨v,e,b,c⟩:=h K a;grind
def Det.arith{k:IntKind}{n:Int}{Φ:Int->VK->Prop}(h:∀m,Det (Φ m)):Det (λK=>arith k n λm=>Φ m K):=λK e=>by
 obtain⟨v,f,c,d⟩:=h _ K (wI e);exact⟨v,f,c,λb a=>by refine⟨?_⟩;exact d b a⟩
def Det.idx{l:List V}{i:Nat}{Φ:V->VK->Prop}(h:∀x,Det (Φ x)):Det (λK=>idx l i λx=>Φ x K):=λK a=>by
 obtain⟨x,f,a⟩:=cO3 a;obtain⟨v,g,d,e⟩:=h x K a;exact⟨v,g,d,λc b=>by refine⟨?_⟩;exact⟨x,f,e c b⟩⟩
def Det.bytes{xs:List V}{Φ:List Int->VK->Prop}(h:∀ns,Det (Φ ns)):Det (λK=>aZ0 xs λns=>Φ ns K):=λK a=>by
 obtain⟨ns,f,a⟩:=cC4 a;obtain⟨v,g,d,e⟩:=h ns K a;exact⟨v,g,d,λc b=>by refine⟨?_⟩;exact⟨ns,f,e c b⟩⟩
theorem Det.map{es:List V}{s:Value}{z:V}{Φ:V->VK->Prop}(h:∀x,Det (Φ x)):Det (λK=>eG6 es s z λx=>Φ x K):=λK e=>by
 obtain⟨v,f,c,d⟩:=h _ K e.out;exact⟨v,f,c,λb a=>⟨d b a⟩⟩
def Det.force{x:V}{Φ:V->VK->Prop}(h:∀x,Det (Φ x)):Det (λK=>force x λy=>Φ y K):=λK b=>by
 have a:Ab.force x (λy=>Φ y K):=b;rw[force_eq]at a;obtain⟨v,e,c,d⟩:=h x K a;grind [force_eq]
def Det.bJ{l:List V}{Φ:List V->VK->Prop}(h:∀l,Det (Φ l)):Det (λK=>bJ l λy=>Φ y K):=λK b=>by
 have a:Ab.bJ l (λy=>Φ y K):=b;rw[bC]at a;obtain⟨v,e,c,d⟩:=h l K a;grind [bC]
theorem Det.cond{b:Bool}{Φ a:VK->Prop}(h:Det Φ)(c:Det a):Det (λK=>cond b (Φ K) (a K)):=by
 cases b;exact c;exact h
theorem Det.branch{b:Bool}{Φ a:VK->Prop}(h:Det Φ)(c:Det a):Det (λK=>branch b (Φ K) (a K)):=by
 cases b;exact c;exact h
theorem Det.lF{σ:St}{x:V}{Φ:List V->VK->Prop}(h:∀l,Det (Φ l)):Det (λK=>lF σ x λl=>Φ l K):=by
 unfold Ab.lF;exact NK
theorem Det.contsK{k:Kd}{σ:St}{x:V}{Φ:List V->VK->Prop}(h:∀l,Det (Φ l)):Det (λK=>contsK k σ x λl=>Φ l K):=by
 unfold Ab.contsK;split;exact Det.lF h;exact h _;exact Det.false
theorem Det.lV{σ:St}{x:V}{Φ:List V->VK->Prop}(h:∀l,Det (Φ l)):Det (λK=>lV σ x λl=>Φ l K):=by
 unfold Ab.lV;exact NK
theorem Det.bound{o:Option V}{a:Int}{Φ:Int->VK->Prop}(h:∀n,Det (Φ n)):Det (λK=>bound o a λn=>Φ n K):=by
 unfold Ab.bound;cases o with
 |none=>exact h _
 |some v=>
  cases v with
  |lit u=>
   cases u with
   |int k n=>exact h n
   |_=>exact Det.false
  |_=>exact Det.false
def yF(r:Row)(cs:List V):Det (wB r cs):=by
 unfold wB;cases r.agg with
 |true=>exact Det.bJ λl=>Det.cond (Det.ret _ _) Det.false
 |false=>
  cases cs with
  |nil=>exact Det.false
  |cons x r=>exact Det.force λv=>Det.ret _ _
def aR1(a:Nat->Option (Nat×Nat))(σ:St)(c:List (Nat×Operand)):∀(cs:List V) (Φ:List V->VK->Prop),(∀l,Det (Φ l))->Det (λK=>oI a σ c cs λl=>Φ l K):=by
 induction c with
 |nil=>
  intro cs Φ h;exact Det.bJ (l:=cs) h
 |cons p r d=>
  intro cs Φ h
  have b:∀K,oI a σ (p::r) cs K=(match a p.1 with
   |some (o,z)=>cond (Nat.beq (lenR (σ.ev p.2).cells) z&&Nat.ble (o+z) (lenR cs)&&allR V.one (σ.ev p.2).cells) (oI a σ r (splice cs o (σ.ev p.2).cells) K) False
   |none=>False):=λK=>rfl
  simp only[b];cases a p.1 with
  |none=>exact Det.false
  |some q=>exact Det.cond (d _ Φ h) Det.false
def bD9(T:Tab)(σ:St)(d:Nat)(o:Op):Det (opVC T σ d o):=by
 unfold opVC;split;exact Det.force λv=>Det.ret _ _;exact Det.force λv=>Det.ret _ _;unfold bA8;split;exact Det.branch (Det.force λv=>Det.ret _ _) (Det.force λv=>Det.ret _ _);exact Det.false;unfold unVC;split;exact Det.ret _ _;exact Det.arith λm=>Det.ret _ _;exact Det.ret _ _;exact Det.false
 ·unfold bD7
  split
  ·refine Det.cond ?_ ?_
   ·unfold cM6
    split<;>first|exact Det.arith λm=>Det.ret _ _|exact Det.need (Det.arith λm=>Det.ret _ _)|exact Det.need (Det.ret _ _)|exact Det.ret _ _|exact Det.false
   unfold shVC;split<;>first|exact Det.need (Det.arith λm=>Det.ret _ _)|exact Det.need (Det.ret _ _)|exact Det.false
  ·unfold cH0
   split<;>first|exact Det.need (Det.ret _ _)|exact Det.ret _ _|exact Det.false
  ·refine Det.cond ?_ Det.false
   unfold bG1;split<;>first|exact Det.ret _ _|exact Det.false
  ·refine Det.cond ?_ Det.false
   unfold aL1;split
   ·refine Det.need ?_
    split<;>first|exact Det.ret _ _|exact Det.false
   ·refine Det.need ?_
    split<;>first|exact Det.ret _ _|exact Det.false
   exact Det.false
  ·refine Det.cond ?_ Det.false
   unfold ptrVC;split<;>first|exact Det.ret _ _|exact Det.false
  exact Det.false
 unfold lM;exact Oe;refine Det.cond ?_ Det.false;unfold lM;exact Oe;refine Det.cond ?_ Det.false;unfold jB;split;refine Det.cond Det.false ?_;split;exact Det.ret _ _;exact Det.bJ λl=>Det.ret _ _;exact Det.ret _ _;exact Det.false;exact Det.false;refine Det.cond ?_ Det.false;unfold aM2;split;exact Det.cond (yF _ _) Det.false;exact Det.false;refine Det.cond ?_ Det.false;unfold pW;split;split;exact yF _ _;exact Det.false;exact yF _ _;split;exact Det.need (Det.idx λx=>Det.cond (yF _ _) Det.false);exact Det.false;exact Det.false;refine Det.cond ?_ Det.false;unfold qU;split;split;exact Det.cond (Det.bJ λl=>Det.ret _ _) Det.false;exact Det.false;split;exact Det.need (Det.idx λx=>Det.cond (Det.bJ λl=>Det.ret _ _) Det.false);exact Det.false;exact Det.false;refine Det.cond ?_ Det.false;unfold gI;split;split;exact KI;exact KI;split;exact Det.need (Det.cond (Det.ret _ _) Det.false);exact Det.false;exact Det.false;split;exact Det.cond (Det.ret _ _) Det.false;exact Det.cond (Det.bJ λl=>Det.ret _ _) Det.false;exact Det.false;exact Det.false;refine Det.cond ?_ Det.false;unfold aM6;split;exact Det.need (Det.ret _ _);exact Det.cond (yF _ _) Det.false;exact Det.false;unfold wZ;split;split;exact Det.force λv=>Det.ret _ _;exact Det.false;exact Det.false;exact Det.ret _ _;exact Det.bJ λxs=>Det.ret _ _;refine Det.cond ?_ Det.false;unfold vO;split;exact aR1 _ _ _ _ (λcs K=>K (.agg cs) []) λl=>Det.ret _ _;exact Det.cond (aR1 _ _ _ _ (λcs K=>K (.agg cs) []) λl=>Det.ret _ _) Det.false;exact Det.false;refine Det.cond ?_ Det.false;unfold iZ;split;refine Det.cond ?_ Det.false;exact aR1 _ _ _ _ (λcs K=>cond (allR V.atom cs) (K _ _) False) λl=>Det.cond (Det.ret _ _) Det.false;exact Det.false;refine Det.cond ?_ Det.false;unfold jY;split;exact Det.need (Det.cond (Det.ret _ _) Det.false);exact Det.false;refine Det.cond ?_ Det.false;unfold sZ;split;split;exact Det.bound (Φ:=λl K=>bound _ _ λh=>need _ (K _ _)) λl=>Det.bound (Φ:=λh K=>need _ (K _ _)) λh=>Det.need (Det.ret _ _);exact Det.false;refine Det.cond ?_ Det.false;refine Det.lV λxs=>Det.bound λl=>Det.bound λh=>?_;split;exact Det.need (Det.ret _ _);split;exact Det.false;exact Det.bound λm=>Det.need (Det.ret _ _);exact Det.false;unfold aF1;split;unfold convB;split;exact Det.cond (Det.need (Det.ret _ _)) Det.false;exact Det.false;exact Det.cond (Det.lF λxs=>Det.bytes λns=>Det.ret _ _) Det.false;unfold bE4;split;exact Det.arith λm=>Det.ret _ _;exact Det.ret _ _;exact Det.false
 ·refine Det.cond ?_ Det.false
  split
  ·unfold aE9
   split<;>first|exact Det.ret _ _|exact Det.false|(split<;>first|exact Det.need (Det.ret _ _)|exact Det.false)
  ·unfold aI4
   split<;>first|exact Det.ret _ _|exact Det.false
  exact Det.false
 refine Det.cond ?_ Det.false;unfold kT;split;refine Det.cond ?_ Det.false;refine Det.contsK λxs=>?_;split;exact JP;exact JP;exact JP;exact Det.false;exact Det.false
 ·unfold rP
  split<;>first|exact Det.ret _ _|exact Det.false
 ·unfold rP
  split<;>first|exact Det.ret _ _|exact Det.false
 refine Det.cond ?_ Det.false;unfold oN;split;exact Det.cond (Det.ret _ _) Det.false;exact Det.false;refine Det.cond ?_ Det.false;unfold rG;split;split;split;refine Det.need (Det.cond ?_ Det.false);exact O9;exact Det.false;exact Det.false;split;refine Det.cond ?_ Det.false;exact O9;exact Det.false;exact Det.false;exact Jz;exact Jz;exact Det.cond (Det.force λv=>Det.ret _ _) Det.false;exact Det.false
def bQ5(σ:St)(d:Nat)(b:List V):∀(j:Nat) (a:Option (Nat×Nat)) (Φ:List V->List Mod->VK->Prop),(∀vs ms,Det (Φ vs ms))->Det (λK=>uF σ d b j a λvs ms=>Φ vs ms K):=by
 induction b with
 |nil=>intro j a Φ h;exact h [] []
 |cons y r ih=>
  intro j a Φ h;simp only[qL];split;split;simp_all;split;simp_all;exact Det.false;split;simp_all;split;simp_all;exact Det.false;exact KW
def dK3(σ:St)(d:Nat)(b:Option (Nat×Nat))(r:V)(f:List Mod->List Mod):Det (λK=>zZ σ d b r λv a=>K v (f a)):=by
 unfold zZ;split;exact bQ5 _ _ _ _ _ (λvs a K=>K (.agg vs) (f a)) λvs a=>Det.ret _ _;exact bQ5 _ _ _ _ _ (λvs a K=>K (.tup vs) (f a)) λvs a=>Det.ret _ _;refine bQ5 _ _ _ _ _ (λvs a K=>match vs with|v::_=>K v (f a)| [] =>False) λvs a=>?_;cases vs with
 |nil=>exact Det.false
 |cons v r=>exact Det.ret _ _
theorem bT4{ar:Nat->Option AE}{ok:List Nat}{N:Nat}{a:AK}{e:TypeId}{l:List V}{x:V}{Φ:V->Mod->VK->Prop}(h:∀v m,Det (Φ v m)):Det (λK=>xO ar ok N a e l x λv m=>Φ v m K):=by
 unfold xO;split;split;split;exact h _ _;exact Det.false;split;exact h _ _;exact Det.false;split;exact h _ _;exact Det.false
theorem aR4(ar:Nat->Option AE)(is ok:List Nat)(ys:List V):∀(xs:List V) (N:Nat) (Φ:List V->List Mod->VK->Prop),(∀vs ms,Det (Φ vs ms))->Det (λK=>oJ ar is ok ys xs N λvs ms=>Φ vs ms K):=by
 induction ys with
 |nil=>
  intro xs N Φ h;cases xs with
  |nil=>exact h [] []
  |cons x r=>exact Det.false
 |cons y r ih=>
  intro xs N Φ h;cases xs with
  |nil=>exact Det.false
  |cons x xr=>
   simp only[zL];split;simp_all [bT4];simp_all [bT4];exact KW
def bO6(bx:Nat->Option (List V))(ar:Nat->Option AE)(is0 ok:List Nat)(bs:List (List V)):∀(is:List Nat) (N:Nat) (Φ:List Mod->VK->Prop),(∀a,Det (Φ a))->Det (λK=>aB3 bx ar is0 ok bs is N λa=>Φ a K):=by
 induction bs with
 |nil=>
  intro is N Φ h;cases is with
  |nil=>exact h []
  |cons x r=>exact Det.false
 |cons b r c=>
  intro is N Φ h;cases is with
  |nil=>exact Det.false
  |cons i d=>
   simp only[aJ1];split;simp_all [aR4];exact Det.false
def dO0(bx:Nat->Option (List V))(ar:Nat->Option AE)(is ok:List Nat)(d:Nat)(r:V)(bs:List (List V))(f:List Mod->List Mod):Det (λK=>aX2 bx ar is ok d r bs λv a=>K v (f a)):=by
 unfold aX2;split;exact aR4 _ _ _ _ _ _ (λvs a K=>aB3 bx ar is ok bs is (d+1000000) λns=>K (.tup vs) (f (appR a ns))) λvs a=>bO6 _ _ _ _ _ _ _ (λns K=>K _ _) λns=>Det.ret _ _;refine aR4 _ _ _ _ _ _ (λvs a K=>match vs with|v::_=>aB3 bx ar is ok bs is (d+1000000) λns=>K v (f (appR a ns))| [] =>False) λvs a=>?_;cases vs with
 |nil=>exact Det.false
 |cons v r=>exact bO6 _ _ _ _ _ _ _ (λns K=>K _ _) λns=>Det.ret _ _
def cJ6(T:Tab)(P:Program)(o:Md)(σ:St)(d:Nat)(f:FuncId)(xs:List V):Det (kY T P o σ d f xs):=by
 intro K h;rcases h.out with⟨ys,r,lend,b,c,i,m⟩|⟨t,ys,r,j,k,g,e,l,A,b,c,i,m,u,y,z⟩|⟨ys,is,bs,r,s,t,b,c,i,m⟩|⟨t,ys,a,b,c,i,m,u⟩;case inr.inl=>exact⟨r,_,z,λq n=>⟨.inr (.inl ⟨t,ys,r,j,k,g,e,l,A,b,c,i,m,u,y,n⟩)⟩⟩
 case inr.inr.inr=>exact⟨_,_,u,λq n=>⟨.inr (.inr (.inr ⟨t,ys,a,b,c,i,m,n⟩))⟩⟩
 case inr.inr.inl=>
  obtain⟨v,p,w,x⟩:=dO0 σ.bx σ.ar is (ownG ((xs,ys)::eU σ.bx bs is)) d r s (λp=>appR (aV σ (mF ((xs,ys)::eU σ.bx bs is))) (appR (aX σ (ownG ((xs,ys)::eU σ.bx bs is))) p)) K m;exact⟨v,p,w,λq n=>⟨.inr (.inr (.inl ⟨ys,is,bs,r,s,t,b,c,i,x q n⟩))⟩⟩
 obtain⟨v,p,w,x⟩:=dK3 σ d (reuse σ (bD ys xs)) r (λp=>appR (cond lend [] (aV σ (bK ys xs))) (appR (aX σ (bD ys xs)) p)) K m;refine⟨v,p,w,λq n=>?_⟩;refine⟨.inl ?_⟩;exact⟨ys,r,lend,b,c,i,x q n⟩
theorem bU4(T:Tab)(P:Program)(a:Md)(σ:St)(d:Nat)(i:Op):Det (bW T P a σ d i)\/(a= .free/\∃f t c l,∀K,bW T P a σ d i K=bV3 T f t c l K):=by
 unfold bW;split;exact .inl (Det.bJ λxs=>cJ6 _ _ _ _ _ _ _);refine .inl ?_;split;exact Det.cond (Det.bJ λxs=>cJ6 _ _ _ _ _ _ _) Det.false;exact Det.false;refine .inl ?_
 have b:∀(e:St) (o:Op) (m:Mod),Det (λK=>opVC T e d o λv g=>K v (m::g)):=λe o m K h=>by
  obtain⟨v,g,k,n⟩:=bD9 T e d o _ h;exact⟨v,m::g,k,λp j=>n _ j⟩
 split;split;exact b _ _ _;exact b _ _ _;exact bD9 _ _ _ _;exact bD9 _ _ _ _;split;exact .inr ⟨rfl,_,_,_,_,λK=>rfl⟩;exact .inl (bD9 _ _ _ _);exact .inl (bD9 _ _ _ _)
def cH1(T:Tab)(P:Program)(hv:List (Nat×List Nat))(σ:St)(d:Nat)(a:Op):Det (bW T P (.drawn hv) σ d a):=by
 grind [bU4]
def aR8{T:Tab}{P:Program}{a:Md}{σ:St}{d:Nat}{g:Op}{e i:VK}(o:∀v f,e v f->i v f)(h:bW T P a σ d g e):bW T P a σ d g i:=by
 rcases bU4 T P a σ d g with m|⟨_,j,t,c,l,n⟩;obtain⟨v,f,p,q⟩:=m e h;simp_all;rw[n]at h⊢;exact⟨h.c0,h.ty,h.kd,h.op,λb k=>o _ _ (h.out b k)⟩
def Is(v:V)(ms:List Mod):VK:=λv' ms'=>v'=v/\ms'=ms
def Mod.same(σ σ':St):Mod->Prop
 | .b i _=>σ'.bx i=σ.bx i
 | .a k _=>σ'.ar k=σ.ar k
def Mod.fresh(σ:St):Mod->Prop
 | .b i _=>σ.bx i=none
 | .a k _=>σ.ar k=none
def Mod.key(p:Nat->Prop)(q:Nat->Nat->Prop):Mod->Prop
 | .b i _=>p i
 | .a k _=>∃g,q k g
abbrev V.agr(σ σ':St)(x:V):Prop:=x.ok (λi=>σ'.bx i=σ.bx i) (λk _=>σ'.ar k=σ.ar k)
section
variable{T:Tab}{P:Program}{σ σ':St}{d:Nat}{v:V}{ms:List Mod}
def bJ6{cs:List V}(f:∀m∈ms,m.same σ σ')(h:lM σ d cs (Is v ms)):lM σ' d cs (Is v ms):=by
 unfold lM at*;split at h;rename_i e;have a:=h;rw[bC]at a;obtain⟨_,c⟩:=aT a;have:=f (.b d cs) (by rw[<-c.2];simp);rw[show σ'.bx d=none from this.trans e];exact h;exact h.elim
def dW7{r:Row}{x:V}(a:x.agr σ σ')(h:pW r σ x (Is v ms)):pW r σ' x (Is v ms):=by
 unfold pW at*;exact OX
def dJ9{r:Row}{x y:V}(a:x.agr σ σ')(h:qU r σ x y (Is v ms)):qU r σ' x y (Is v ms):=by
 unfold qU at*;exact OX
def bO4{r:Row}{x i:V}(a:x.agr σ σ')(h:gI T r σ x i (Is v ms)):gI T r σ' x i (Is v ms):=by
 cases x<;>simp_all [V.agr,V.ok,gI]
theorem bS6{x:V}{K:List V->Prop}(a:x.agr σ σ')(h:lF σ x K):lF σ' x K:=by
 unfold lF at h;split at h;exact h;exact h;exact h;simp_all [V.agr,V.ok,lF];exact h.elim
def dA4{x:V}{K:List V->Prop}(a:x.agr σ σ')(h:lV σ x K):lV σ' x K:=by
 unfold lV at h;split at h;exact h;exact h;exact h;simp_all [V.agr,V.ok,lV];exact h.elim
def eN2{x:V}(a:x.agr σ σ')(h:aE9 σ x (Is v ms)):aE9 σ' x (Is v ms):=by
 unfold aE9 at h;split at h;exact h;exact h;exact h;simp_all [V.agr,V.ok,aE9];exact h.elim
def dK8{r:Row}{x:V}{lo hi a:Option V}(g:x.agr σ σ')(h:sZ T r σ x lo hi a (Is v ms)):sZ T r σ' x lo hi a (Is v ms):=by
 unfold sZ at*;split at h;exact h;rename_i f;obtain⟨b,c⟩:=aT h;have e:=dA4 g c;rw[b];exact e;exact h.elim
def aS7{place:Nat->Option (Nat×Nat)}{a:List (Nat×Operand)}:∀ {cs:List V} {K:List V->Prop},(∀p∈a,σ'.ev p.2=σ.ev p.2)->oI place σ a cs K->oI place σ' a cs K:=by
 induction a with
 |nil=>intro cs K _ h;exact h
 |cons p r c=>
  intro cs K b h;exact Mc
def aU7{place:Nat->Option (Nat×Nat)}{c:List (Nat×Operand)}:∀ {cs:List V} {K:List V->Prop},oI place σ c cs K->∃a,K a:=by
 induction c with
 |nil=>intro cs K h;have b:bJ cs K:=h;rw[bC]at b;exact⟨_,b⟩
 |cons p r e=>
  intro cs K h;exact Mc
def dM6{r:Row}{a:List (Nat×Operand)}(b:∀p∈a,σ'.ev p.2=σ.ev p.2)(h:vO T r σ a (Is v ms)):vO T r σ' a (Is v ms):=by
 unfold vO at*;split at h;exact aS7 b h;obtain⟨c,e⟩:=aT h;rw[c];exact aS7 b e;exact h.elim
def bB6{r:Row}{n:Nat}{b:List (Nat×Operand)}(j:∀p∈b,σ'.ev p.2=σ.ev p.2)(k:∀m∈ms,m.same σ σ')(h:iZ T r σ d n b (Is v ms)):iZ T r σ' d n b (Is v ms):=by
 unfold iZ at*;split at h;rename_i a i;obtain⟨f,c⟩:=aT h;obtain⟨e,g⟩:=aU7 c;obtain⟨_,_,h4⟩:=aT g;have:=k _ Ba;simp only[show σ'.ar d=none from this.trans i,a];rw[f];exact aS7 j c;exact h.elim
def bN2{r:Row}{n c:V}(f:∀m∈ms,m.same σ σ')(h:jY T r σ d n c (Is v ms)):jY T r σ' d n c (Is v ms):=by
 unfold jY at*;split at h;rename_i a e;have b:=(dX h).2;obtain⟨_,_,h4⟩:=aT b;have:=f _ Ba;simp only[show σ'.ar d=none from this.trans e,a];exact h;exact h.elim
def eQ1{x:V}{K:List V->Prop}(h:lF σ x K):∃l,K l:=by
 unfold lF at h;grind [dX]
def eK7{x:V}{K:List V->Prop}(h:lV σ x K):∃l,K l:=by
 unfold lV at h;grind [dX]
theorem cS8{x:V}{K a:List V->Prop}(b:∀l,K l->a l)(h:lF σ x K):lF σ x a:=by
 unfold lF at*;grind [dX]
def contsK_p{k:Kd}{x:V}{K:List V->Prop}(h:contsK k σ x K):∃l,K l:=by
 unfold contsK at h;split at h;exact eQ1 h;exact⟨_,h⟩;exact h.elim
def contsK_mono{k:Kd}{x:V}{K a:List V->Prop}(b:∀l,K l->a l)(h:contsK k σ x K):contsK k σ x a:=by
 unfold contsK at*;grind [cS8]
def loc_contsK{k:Kd}{x:V}{K:List V->Prop}(a:x.agr σ σ')(h:contsK k σ x K):contsK k σ' x K:=by
 unfold contsK at*;grind [bS6]
def cY6{r:Row}{a:Kd}{s x:V}(g:s.agr σ σ')(f:x.agr σ σ')(hm:∀m∈ms,m.same σ σ')(h:kT T r a σ d s x (Is v ms)):kT T r a σ' d s x (Is v ms):=by
 unfold kT at*;split at h;rename_i e;obtain⟨b,c⟩:=aT h;rw[b];refine loc_contsK f (contsK_mono (λxs h=>?_) c);split at h;exact J9;exact J9;simp_all [V.agr,V.ok];exact h.elim;exact h.elim
end
section
variable{T:Tab}{P:Program}{σ σ':St}{d:Nat}{v:V}{ms:List Mod}
def yL{a β:Type}{f g:a->β}{l:List a}(h:∀x∈l,f x=g x):mapR f l=mapR g l:=by
 grind [dU,Ru]
def cL5{t:TypeId}(b:∀m∈ms,m.same σ σ')(h:oN T t σ d (Is v ms)):oN T t σ' d (Is v ms):=by
 unfold oN at*;split at h;rename_i a;obtain⟨c,_,h4⟩:=aT h;have:=b _ Ba;simp only[show σ'.ar d=none from this.trans a];exact h;exact h.elim
def cX0{t:TypeId}{x y:V}(a:x.agr σ σ')(h:rG T t σ x y (Is v ms)):rG T t σ' x y (Is v ms):=by
 unfold rG at*;split at h;simp_all [V.agr,V.ok];exact h;exact h.elim
def aH2{t:TypeId}{x y z:V}(a:x.agr σ σ')(h:iE T t σ x y z (Is v ms)):iE T t σ' x y z (Is v ms):=by
 unfold iE at*;split at h;simp_all [V.agr,V.ok];exact h.elim
def cW0{f:Op}(he:∀x∈f.operands,σ'.ev x=σ.ev x)(ha:1<cls f->∀x∈f.operands,(σ.ev x).agr σ σ')(e:∀m∈ms,m.same σ σ')(h:opVC T σ d f (Is v ms)):opVC T σ' d f (Is v ms):=by
 unfold opVC at h;split at h<;>unfold opVC<;>simp only;rw[he _ Aj];exact h;rw[he _ Aj];exact h;rename_i c a b;rw[he c Aj,he a Aj,he b Aj];exact h;rw[he _ Aj];exact h;rename_i x y _;rw[he x Aj,he y Aj];exact h;rw[he _ Aj];exact bJ6 e h;obtain⟨h1,h2⟩:=aT h;rw[h1];exact bJ6 e h2;rw[he _ Aj];exact h;rw[he _ Aj];exact h;rename_i x;obtain⟨h1,h2⟩:=aT h;rw[h1,he x Aj];exact dW7 (ha Ar x Aj) h2;rename_i x y;obtain⟨h1,h2⟩:=aT h;rw[h1,he x Aj,he y Aj];exact dJ9 (ha Ar x Aj) h2;rename_i x y;obtain⟨h1,h2⟩:=aT h;rw[h1,he x Aj,he y Aj];exact bO4 (ha Ar x Aj) h2;rename_i x y;rw[he x Aj,he y Aj];exact h;rw[he _ Aj];exact h;exact h;rename_i x xs
 have i:mapR σ'.ev (x::xs)=mapR σ.ev (x::xs):=by
  rw[dU,dU];refine Ru λy k=>he y ?_;simp[Op.operands]at k⊢;exact k
 rw[i];exact h;rename_i q;obtain⟨h1,h2⟩:=aT h;rw[h1];refine dM6 (λp hp=>he p.2 ?_) h2;exact Ol;rename_i q;obtain⟨h1,h2⟩:=aT h;rw[h1];refine bB6 (λp hp=>he p.2 ?_) e h2;exact Ol;rename_i x y;obtain⟨h1,h2⟩:=aT h;rw[h1,he x Aj,he y Aj];exact bN2 e h2;rename_i x lo hi j;obtain⟨h1,h2⟩:=aT h
 have o:lo.map σ'.ev=lo.map σ.ev:=by
  cases lo with
  |none=>rfl
  |some y=>simp[he y Aj]
 have n:hi.map σ'.ev=hi.map σ.ev:=by
  cases hi with
  |none=>rfl
  |some y=>simp[he y Aj]
 have hx:j.map σ'.ev=j.map σ.ev:=by
  cases j with
  |none=>rfl
  |some y=>simp[he y Aj]
 rw[h1,he x Aj,o,n,hx];exact dK8 (ha Ar x Aj) h2;rename_i x;rw[he x Aj];unfold aF1 at h⊢;split at h;unfold convB at h⊢;split at h;rename_i l hx;obtain⟨h1,h2⟩:=aT h;obtain⟨_,_,h4⟩:=dX h2;have:=e _ Ba;simp only[show σ'.ar d=none from this.trans l,hx];exact h;exact h.elim;obtain⟨h1,h2⟩:=aT h;rw[h1];exact bS6 (ha Ar x Aj) h2;exact h;rename_i x t;obtain⟨h1,h2⟩:=aT h;rw[h1,he x AB];split at h2;exact eN2 (ha Ar x AB) h2;exact h2;exact h2.elim;rename_i s x t r;obtain⟨h1,h2⟩:=aT h;rw[h1,he x AB,he s AB];exact cY6 (ha Ar s AB) (ha Ar x AB) e h2;rw[yL (g:=σ.ev) λx hx=>he x Cb];exact h;rw[yL (g:=σ.ev) λx hx=>he x Cb];exact h;obtain⟨h1,h2⟩:=aT h;rw[h1];exact cL5 e h2;rename_i t x y;obtain⟨h1,h2⟩:=aT h;rw[h1,he x Aj,he y Aj];exact cX0 (ha Ar x Aj) h2;exact JW;exact JW;rw[he _ Aj];exact h;exact h.elim
def Mo(R:List Mod->Prop)(Φ:VK->Prop):Prop:=∀K,Φ K->∃v ms,K v ms/\R ms
variable{R:List Mod->Prop}
def Mo.ret(v:V){ms:List Mod}(h:R ms):Mo R (λK=>K v ms):=λ_ a=>⟨v,ms,a,h⟩
def Mo.false:Mo R (λ_=>False):=λ_ h=>h.elim
def Mo.need{p:Prop}{Φ:VK->Prop}(h:p->Mo R Φ):Mo R (λK=>need p (Φ K)):=λK a=>h (dX a).1 K (dX a).2
def Mo.arith{k:IntKind}{n:Int}{Φ:Int->VK->Prop}(h:∀m,Mo R (Φ m)):Mo R (λK=>arith k n λm=>Φ m K):=λK a=>h _ K (wI a)
def Mo.idx{l:List V}{i:Nat}{Φ:V->VK->Prop}(h:∀x,Mo R (Φ x)):Mo R (λK=>idx l i λx=>Φ x K):=λK a=>by
 obtain⟨x,b,a⟩:=cO3 a;exact h x K a
def Mo.bytes{xs:List V}{Φ:List Int->VK->Prop}(h:∀ns,Mo R (Φ ns)):Mo R (λK=>aZ0 xs λns=>Φ ns K):=λK a=>by
 obtain⟨ns,b,a⟩:=cC4 a;exact h ns K a
def Mo.force{x:V}{Φ:V->VK->Prop}(h:∀x,Mo R (Φ x)):Mo R (λK=>force x λy=>Φ y K):=λK b=>by
 have a:Ab.force x (λy=>Φ y K):=b;rw[force_eq]at a;exact h x K a
def Mo.bJ{l:List V}{Φ:List V->VK->Prop}(h:∀l,Mo R (Φ l)):Mo R (λK=>bJ l λy=>Φ y K):=λK b=>by
 have a:Ab.bJ l (λy=>Φ y K):=b;rw[bC]at a;exact h l K a
theorem Mo.cond{b:Bool}{Φ a:VK->Prop}(h:Mo R Φ)(c:Mo R a):Mo R (λK=>cond b (Φ K) (a K)):=by
 cases b;exact c;exact h
theorem Mo.branch{b:Bool}{Φ a:VK->Prop}(h:Mo R Φ)(c:Mo R a):Mo R (λK=>branch b (Φ K) (a K)):=by
 cases b;exact c;exact h
theorem Mo.lF{x:V}{Φ:List V->VK->Prop}(h:∀l,Mo R (Φ l)):Mo R (λK=>lF σ x λl=>Φ l K):=λK a=>by
 obtain⟨l,b⟩:=eQ1 (K:=λl=>Φ l K) a;exact h l K b
theorem Mo.contsK{k:Kd}{x:V}{Φ:List V->VK->Prop}(h:∀l,Mo R (Φ l)):Mo R (λK=>contsK k σ x λl=>Φ l K):=λK a=>by
 obtain⟨l,b⟩:=contsK_p (K:=λl=>Φ l K) a;exact h l K b
theorem Mo.lV{x:V}{Φ:List V->VK->Prop}(h:∀l,Mo R (Φ l)):Mo R (λK=>lV σ x λl=>Φ l K):=λK a=>by
 obtain⟨l,b⟩:=eK7 (K:=λl=>Φ l K) a;exact h l K b
theorem Mo.bound{o:Option V}{a:Int}{Φ:Int->VK->Prop}(h:∀n,Mo R (Φ n)):Mo R (λK=>bound o a λn=>Φ n K):=λK b=>by
 unfold Ab.bound at b;split at b;exact h _ K b;exact h _ K b;exact b.elim
def rM(a:R [])(r:Row)(cs:List V):Mo R (wB r cs):=by
 unfold wB;cases r.agg with
 |true=>exact Mo.bJ λl=>Mo.cond (Mo.ret _ a) Mo.false
 |false=>
  cases cs with
  |nil=>exact Mo.false
  |cons x r=>exact Mo.force λv=>Mo.ret _ a
def Mo.oI{a:Nat->Option (Nat×Nat)}{e:List (Nat×Operand)}{cs:List V}{Φ:List V->VK->Prop}(h:∀l,Mo R (Φ l)):Mo R (λK=>oI a σ e cs λl=>Φ l K):=λK b=>by
 obtain⟨l,c⟩:=aU7 (K:=λl=>Φ l K) b;exact h l K c
def bS7(c:∀cs,σ.bx d=none->R [.b d cs])(cs:List V):Mo R (lM σ d cs):=by
 unfold lM;split;rename_i a;exact Mo.bJ λl=>Mo.cond (Mo.ret _ (c l a)) Mo.false;exact Mo.false
def Fr1(σ:St)(op:Op)(m:Mod):Prop:=m.fresh σ\/(4<=cls op/\∀p q,(∀x∈op.operands,(σ.ev x).ok p q)->m.key p q)
def bY1(T:Tab)(σ:St)(d:Nat)(o:Op):Mo (λms=>∀m∈ms,Fr1 σ o m) (opVC T σ d o):=by
 have hn:∀m∈([] :List Mod),Fr1 σ o m:=λm hm=>GI;have h1:∀e:Mod,Fr1 σ o e->∀m∈[e],Fr1 σ o m:=λe hm m h=>by cases Py.1 h;exact hm
 unfold opVC;split;exact Mo.force λv=>Mo.ret _ hn;exact Mo.force λv=>Mo.ret _ hn;unfold bA8;split;exact Mo.branch (Mo.force λv=>Mo.ret _ hn) (Mo.force λv=>Mo.ret _ hn);exact Mo.false;unfold unVC;split;exact Mo.ret _ hn;exact Mo.arith λm=>Mo.ret _ hn;exact Mo.ret _ hn;exact Mo.false
 ·unfold bD7
  split
  ·refine Mo.cond ?_ ?_
   ·unfold cM6
    split<;>first|exact Mo.arith λm=>Mo.ret _ hn|exact Mo.need (λhp=>Mo.arith λm=>Mo.ret _ hn)|exact Mo.need (λhp=>Mo.ret _ hn)|exact Mo.ret _ hn|exact Mo.false
   unfold shVC;split<;>first|exact Mo.need (λhp=>Mo.arith λm=>Mo.ret _ hn)|exact Mo.need (λhp=>Mo.ret _ hn)|exact Mo.false
  ·unfold cH0
   split<;>first|exact Mo.need (λhp=>Mo.ret _ hn)|exact Mo.ret _ hn|exact Mo.false
  ·refine Mo.cond ?_ Mo.false
   unfold bG1;split<;>first|exact Mo.ret _ hn|exact Mo.false
  refine Mo.cond ?_ Mo.false;unfold aL1;split;exact KU;exact KU;exact Mo.false
  ·refine Mo.cond ?_ Mo.false
   unfold ptrVC;split<;>first|exact Mo.ret _ hn|exact Mo.false
  exact Mo.false
 exact bS7 (σ:=σ) (d:=d) (λcs c=>h1 (.b d cs) (.inl c)) _;exact Mo.cond (bS7 (σ:=σ) (d:=d) (λcs c=>h1 (.b d cs) (.inl c)) _) Mo.false;refine Mo.cond ?_ Mo.false;unfold jB;split;refine Mo.cond Mo.false ?_;split;exact Mo.ret _ hn;exact Mo.bJ λl=>Mo.ret _ hn;exact Mo.ret _ hn;exact Mo.false;exact Mo.false;refine Mo.cond ?_ Mo.false;unfold aM2;split;exact Mo.cond (rM hn _ _) Mo.false;exact Mo.false;refine Mo.cond ?_ Mo.false;unfold pW;split;split;exact rM hn _ _;exact Mo.false;exact rM hn _ _;split;exact Mo.need (λhp=>Mo.idx λx=>Mo.cond (rM hn _ _) Mo.false);exact Mo.false;exact Mo.false;refine Mo.cond ?_ Mo.false;unfold qU;rename_i x0 y0;split;rename_i i off hx;split;refine Mo.cond (Mo.bJ λl=>Mo.ret _ (h1 (.b i l) (.inr ⟨Ar,λp q hok=>?_⟩))) Mo.false;have:=hok x0 Aj;rw[hx]at this;simp only[V.ok]at this;exact this;exact Mo.false;rename_i k g sz i off hx;split;refine Mo.need (λhp=>Mo.idx λx=>Mo.cond (Mo.bJ λl=>Mo.ret _ (h1 (.a k _) (.inr ⟨Ar,λp q hok=>?_⟩))) Mo.false);have:=hok x0 Aj;exact OL;exact Mo.false;exact Mo.false;refine Mo.cond ?_ Mo.false;unfold gI;split;split;exact KE;exact KE;split;exact Mo.need (λhp=>Mo.cond (Mo.ret _ hn) Mo.false);exact Mo.false;exact Mo.false;split;exact Mo.cond (Mo.ret _ hn) Mo.false;exact Mo.cond (Mo.bJ λl=>Mo.ret _ hn) Mo.false;exact Mo.false;exact Mo.false;refine Mo.cond ?_ Mo.false;unfold aM6;split;exact Mo.need (λhp=>Mo.ret _ hn);exact Mo.cond (rM hn _ _) Mo.false;exact Mo.false;unfold wZ;split;split;exact Mo.force λv=>Mo.ret _ hn;exact Mo.false;exact Mo.false;exact Mo.ret _ hn;exact Mo.bJ λxs=>Mo.ret _ hn;refine Mo.cond ?_ Mo.false;unfold vO;split;exact Mo.oI (Φ:=λcs K=>K (.agg cs) []) λl=>Mo.ret _ hn;exact Mo.cond (Mo.oI (Φ:=λcs K=>K (.agg cs) []) λl=>Mo.ret _ hn) Mo.false;exact Mo.false;refine Mo.cond ?_ Mo.false;unfold iZ;split;rename_i hd;refine Mo.cond ?_ Mo.false;exact Mo.oI (Φ:=λcs K=>cond (allR V.atom cs) (K _ _) False) λl=>Mo.cond (Mo.ret _ (h1 (.a d _) (.inl hd))) Mo.false;exact Mo.false;refine Mo.cond ?_ Mo.false;unfold jY;split;rename_i hd _ _;exact Mo.need (λhp=>Mo.cond (Mo.ret _ (h1 (.a d _) (.inl hd))) Mo.false);exact Mo.false;refine Mo.cond ?_ Mo.false;unfold sZ;split;split;exact Mo.bound (Φ:=λl K=>bound _ _ λh=>need _ (K _ _)) λl=>Mo.bound (Φ:=λh K=>need _ (K _ _)) λh=>Mo.need (λhp=>Mo.ret _ hn);exact Mo.false;refine Mo.cond ?_ Mo.false;refine Mo.lV λxs=>Mo.bound λl=>Mo.bound λh=>?_;split;exact Mo.need (λhp=>Mo.ret _ hn);split;exact Mo.false;exact Mo.bound λm=>Mo.need (λhp=>Mo.ret _ hn);exact Mo.false;unfold aF1;split;unfold convB;split;rename_i hd _;exact Mo.cond (Mo.need λhp=>Mo.ret _ (h1 (.a d _) (.inl hd))) Mo.false;exact Mo.false;exact Mo.cond (Mo.lF λxs=>Mo.bytes λns=>Mo.ret _ hn) Mo.false;unfold bE4;split;exact Mo.arith λm=>Mo.ret _ hn;exact Mo.ret _ hn;exact Mo.false
 ·refine Mo.cond ?_ Mo.false
  split
  ·unfold aE9
   split<;>first|exact Mo.ret _ hn|exact Mo.false|(split<;>first|exact Mo.need (λhp=>Mo.ret _ hn)|exact Mo.false)
  ·unfold aI4
   split<;>first|exact Mo.ret _ hn|exact Mo.false
  exact Mo.false
 refine Mo.cond ?_ Mo.false;unfold kT;rename_i f x0 t0 j;split;refine Mo.cond ?_ Mo.false;refine Mo.contsK λxs=>?_;split;exact Kt;exact Kt;rename_i k g hx;split;refine Mo.need λhp=>Mo.ret _ (h1 (.a k _) (.inr ⟨Ar,λp q hok=>?_⟩));have:=hok f AB;exact OL;exact Mo.false;exact Mo.false;exact Mo.false
 ·unfold rP
  split<;>first|exact Mo.ret _ hn|exact Mo.false
 ·unfold rP
  split<;>first|exact Mo.ret _ hn|exact Mo.false
 refine Mo.cond ?_ Mo.false;unfold oN;split;rename_i hd;exact Mo.cond (Mo.ret _ (h1 (.a d _) (.inl hd))) Mo.false;exact Mo.false;refine Mo.cond ?_ Mo.false;unfold rG;split;split;split;refine Mo.need λhp=>Mo.cond ?_ Mo.false;exact O5;exact Mo.false;exact Mo.false;split;refine Mo.cond ?_ Mo.false;exact O5;exact Mo.false;exact Mo.false;exact I7;exact I7;exact Mo.cond (Mo.force λv=>Mo.ret _ hn) Mo.false;exact Mo.false
theorem bQ1{a:List V}:∀ {j:Nat} {K:List V->List Mod->Prop},uF σ d a j none K->∃vs ms,K vs ms/\(∀m∈ms,m.fresh σ)/\∀σ':St,(∀m∈ms,m.same σ σ')->∀K':List V->List Mod->Prop,K' vs ms->uF σ' d a j none K':=by
 induction a with
 |nil=>intro j K h;exact⟨[],[],h,Af,λσ' _ K' h=>h⟩
 |cons y r ih=>
  intro j K h;rw[qL]at h;split at h;exact I9;exact I9;grind [force_eq,qL]
def bO7{r:V}{K:VK}(h:zZ σ d none r K):∃v ms,K v ms/\(∀m∈ms,m.fresh σ)/\∀σ':St,(∀m∈ms,m.same σ σ')->∀a:VK,a v ms->zZ σ' d none r a:=by
 unfold zZ at h;split at h<;>grind [bQ1,zZ]
def cI2{x y:V}(a:x.agr σ σ')(h:yH σ.ar x y):yH σ'.ar x y:=by
 unfold yH at*;cases y<;>simp only at h⊢
 case sl l=>
  exact Nu
 all_goals exact h
def dS6{ys:List V}:∀ {xs:List V},V.okL (λi=>σ'.bx i=σ.bx i) (λk _=>σ'.ar k=σ.ar k) xs->cN9 σ.ar ys xs->cN9 σ'.ar ys xs:=by
 induction ys with
 |nil=>intro xs _ h;exact h
 |cons y r b=>
  intro xs a h;cases xs with
  |nil=>exact h
  |cons x xr=>
   simp only[V.okL]at a;exact⟨cI2 a.1 h.1,b a.2 h.2⟩
def eH3{x y:V}(a:x.agr σ σ')(h:wU T σ.ar x y):wU T σ'.ar x y:=by
 unfold wU at*;cases y<;>simp only at h⊢
 case own e l=>
  exact Nu
 case ap e l=>
  exact Nu
 case agg ys=>
  cases x<;>simp only at h⊢
  case agg xs=>
   simp only[V.agr,V.ok]at a;exact dS6 a h
 all_goals exact cI2 a h
theorem dL6{ys:List V}:∀ {xs:List V},(∀x∈xs,x.agr σ σ')->iQ T σ.ar ys xs->iQ T σ'.ar ys xs:=by
 induction ys with
 |nil=>intro xs _ h;exact h
 |cons y r b=>
  intro xs a h;cases xs with
  |nil=>exact h
  |cons x xr=>exact⟨eH3 (a x Af) h.1,b (λz hz=>a z GK) h.2⟩
def yX{hv:List (Nat×List Nat)}(j:hvOf hv d=none){f:FuncId}{xs:List V}{K:VK}(h:kY T P (.drawn hv) σ d f xs K):∃v ms,K v ms/\(∀m∈ms,m.fresh σ)/\∀σ':St,(∀x∈xs,x.agr σ σ')->(∀m∈ms,m.same σ σ')->∀b:VK,b v ms->kY T P (.drawn hv) σ' d f xs b:=by
 rcases h.out with⟨ys,r,lend,s,i,t,e⟩|⟨a,_⟩|⟨_,_,_,_,_,a,_⟩|⟨a,_⟩;case inr.inl=>cases a
 case inr.inr.inr=>cases a
 case inr.inr.inl=>
  unfold Md.may at a;simp only[j]at a;cases a
 have hc:=i;simp only[sO,Md.light,Px,Qo,QG]at hc
 have g:bD ys xs=[] :=by
  grind [QJ,iL,PV]
 have k:∀σ:St,cond lend [] (aV σ (bK ys xs))=[] :=λσ=>JL
 have l:∀(σ:St) (ms:List Mod),appR (cond lend [] (aV σ (bK ys xs))) (appR (aX σ (bD ys xs)) ms)=ms:=λσ ms=>by
  rw[k,g];rfl
 have c:∀σ:St,reuse σ (bD ys xs)=none:=λσ=>by rw[g];rfl
 simp only[l,c]at e;obtain⟨v,ms,o,q,y⟩:=bO7 e;refine⟨v,ms,o,q,λσ' w u b n=>?_⟩;refine⟨.inl ?_⟩;grind [dL6]
def cJ1{m:Md}{f:FuncId}{xs:List V}{K:VK}(c:σ'.bx=σ.bx)(b:σ'.ar=σ.ar)(h:kY T P m σ d f xs K):kY T P m σ' d f xs K:=by
 obtain⟨env,bx,ar⟩:=σ;obtain⟨a,g,e⟩:=σ';simp only at c b;subst c b;exact⟨h.out⟩
def hvy(hv:List (Nat×List Nat))(d:Nat)(op:Op):Bool:=aG7 op&&isS (hvOf hv d)
def aN7{hv:List (Nat×List Nat)}{a:Op}(h:hvy hv d a=false)(b:aG7 a=true):hvOf hv d=none:=by
 unfold hvy at h;rw[b,Bool.true_and]at h;unfold isS at h;grind
theorem aO9{hv:List (Nat×List Nat)}{k:Op}(r:hvy hv d k=true->σ'.bx=σ.bx/\σ'.ar=σ.ar)(j:∀x∈k.operands,σ'.ev x=σ.ev x)(i:1<cls k->∀x∈k.operands,(σ.ev x).agr σ σ')(l:∀m∈ms,m.same σ σ')(h:bW T P (.drawn hv) σ d k (Is v ms)):bW T P (.drawn hv) σ' d k (Is v ms):=by
 unfold bW at h;split at h<;>unfold bW
 ·rename_i f as G
  have e:mapR σ'.ev as=mapR σ.ev as:=yL λx hx=>j x Cb;rw[bC]at h;simp only;rw[bC,e];cases a:hvy hv d (.call ⟨.value (.func f),⟨as⟩,G⟩)with
  |true=>exact cJ1 (r a).1 (r a).2 h
  |false=>
  obtain⟨v',E,⟨rfl,rfl⟩,J,F⟩:=yX (aN7 a rfl) h;refine F σ' ?_ l _ ⟨rfl,rfl⟩;intro x hx;rw[dU]at hx;obtain⟨y,hy,rfl⟩:=PI.1 hx;exact i Ar y FO
 ·rename_i t as G
  have e:mapR σ'.ev as=mapR σ.ev as:=yL λx hx=>j x Cb;have A:σ'.env t=σ.env t:=j (.tmp t) AB;simp only;rw[A];split at h
  ·rename_i g H C
   obtain⟨B,h⟩:=aT h;rw[B];simp only[Qo];rw[bC]at h;rw[bC,e];cases a:hvy hv d (.call ⟨.value (.tmp t),⟨as⟩,G⟩)with
   |true=>exact cJ1 (r a).1 (r a).2 h
   |false=>
   obtain⟨v',E,⟨rfl,rfl⟩,J,F⟩:=yX (aN7 a rfl) h;refine F σ' ?_ l _ ⟨rfl,rfl⟩;intro x hx;rw[dU]at hx;rcases(argsV_mem hx).symm with hx|hx;obtain⟨y,hy,rfl⟩:=PI.1 hx;exact i Ar y FO;have z:=i Ar (.tmp t) AB;have b:(σ.env t).agr σ σ':=z;rw[C]at b;simp only[V.agr,V.ok]at b;exact aH.1 b x hx
  exact h.elim
 rename_i t x lo hi I;have u:opVC T σ d (.slice t (.tmp x) lo hi I) (Is v ms):=JM;have w:=cW0 j i l u;simp only;exact w;rename_i s t x c K;have u:opVC T σ d (.binOp s t (.tmp x) (.const c) K) (Is v ms):=JM;have w:=cW0 j i l u;simp only;exact w;rename_i D n o q;split;exact(D _ _ _ rfl).elim;exact(n _ _ _ rfl).elim;exact(o _ _ _ _ _ rfl).elim;exact(q _ _ _ _ _ rfl).elim;exact cW0 j i l h
def bQ4{hv:List (Nat×List Nat)}{b:Op}(hh:hvy hv d b=false)(h:bW T P (.drawn hv) σ d b (Is v ms)):∀m∈ms,Fr1 σ b m:=by
 unfold bW at h;split at h;rw[bC]at h;exact NW;split at h;obtain⟨_,h⟩:=aT h;rw[bC]at h;exact NW;exact h.elim;rename_i t x lo hi e;have h1:opVC T σ d (.slice t (.tmp x) lo hi e) (Is v ms):=JM;exact O1;rename_i a t x c f;have h1:opVC T σ d (.binOp a t (.tmp x) (.const c) f) (Is v ms):=JM;exact O1;obtain⟨v',ms',⟨rfl,rfl⟩,q⟩:=bY1 T σ d _ _ h;exact q
end
def Eff(T:Tab)(P:Program)(hv:List (Nat×List Nat))(n:Nat)(ops:List Oper)(o:Oper)(σ:St)(v:V)(ms:List Mod):Prop:=
 (∀d,o.dst=some d->d<n)/\match o.guard with
 |none=>bW T P (.drawn hv) σ (o.dst.getD n) o.op (Is v ms)
 |some (j,want)=>∃s,tV ops j=some s/\
  ((σ.env s= .lit (.bool want)/\bW T P (.drawn hv) σ (o.dst.getD n) o.op (Is v ms))\/((σ.env s= .lit (.bool !want)\/∃cs,σ.env s= .tup cs)/\v= .tup []/\ms=[]))
section
variable{T:Tab}{P:Program}{σ σ':St}{n d:Nat}{v:V}{ms:List Mod}{ops:List Oper}{o p:Oper}{K:St->Prop}{hv:List (Nat×List Nat)}
def eI5(h:Step T P (.drawn hv) n ops o σ K):∃v ms,Eff T P hv n ops o σ v ms/\K (σ.put o.dst v ms):=by
 unfold Step at h;unfold Eff;split at h
 ·rename_i l
  try simp only[l]
  rcases h with⟨a,c⟩|⟨k,_⟩|⟨k,_⟩;case inr.inl=>cases k
  case inr.inr=>cases k
  obtain⟨v,ms,m,q⟩:=cH1 _ _ _ _ _ _ _ c;exact⟨v,ms,⟨a,q _ ⟨rfl,rfl⟩⟩,m⟩
 rename_i j g l;try simp only[l]
 obtain⟨s,a,c,r⟩:=h;rcases r with⟨b,i,e⟩|⟨cs,i,e⟩;split at e;rename_i f;subst f;obtain⟨v,ms,m,q⟩:=cH1 _ _ _ _ _ _ _ e;exact⟨v,ms,⟨c,s,a, .inl ⟨i,q _ ⟨rfl,rfl⟩⟩⟩,m⟩;rename_i f;refine⟨_,_,⟨c,s,a, .inr ⟨.inl ?_,rfl,rfl⟩⟩,e⟩;rw[i];cases b<;>cases g<;>simp_all
 exact⟨_,_,⟨c,s,a, .inr ⟨.inr ⟨cs,i⟩,rfl,rfl⟩⟩,e⟩
def eE8(h:Eff T P hv n ops o σ v ms)(l:K (σ.put o.dst v ms)):Step T P (.drawn hv) n ops o σ K:=by
 unfold Eff at h;unfold Step;obtain⟨k,f⟩:=h;split at f
 ·rename_i g
  try simp only[g]
  exact .inl ⟨k,aR8 (λv' i ⟨c,e⟩=>by rw[c,e];exact l) f⟩
 rename_i j a g;try simp only[g]
 obtain⟨s,m,b⟩:=f;refine⟨s,m,k,?_⟩;rcases b with⟨b,q⟩|⟨b,rfl,rfl⟩;refine .inl ⟨a,b,?_⟩;rw[Pm rfl];exact aR8 (λv' i ⟨c,e⟩=>by rw[c,e];exact l) q;grind
def aP3(h:hvO hv o=false):hvy hv (o.dst.getD n) o.op=false:=by
 unfold hvO at h;unfold hvy;cases b:aG7 o.op with
 |false=>rfl
 |true=>
  rw[b,Bool.true_and]at h;cases a:o.dst with
  |some d=>rw[a]at h;simpa using h
  |none=>
   rw[a]at h;cases hv with
   |nil=>rfl
   |cons p r=>simp at h
def cO7(c:hvO hv o=false)(h:Eff T P hv n ops o σ v ms):∀m∈ms,Fr1 σ o.op m:=by
 unfold Eff at h;obtain⟨g,a⟩:=h;split at a;exact bQ4 (aP3 c) a;obtain⟨s,i,b⟩:=a;rcases b with⟨b,f⟩|⟨b,rfl,rfl⟩;exact bQ4 (aP3 c) f;intro m e;cases e
theorem mW(c:hvO hv o=true->σ'.bx=σ.bx/\σ'.ar=σ.ar)(he:∀t∈o.looksAt ops.toArray,σ'.env t=σ.env t)(j:1<cls o.op->∀x∈o.op.operands,(σ.ev x).agr σ σ')(k:∀m∈ms,m.same σ σ')(h:Eff T P hv n ops o σ v ms):Eff T P hv n ops o σ' v ms:=by
 have b:∀x∈o.op.operands,σ'.ev x=σ.ev x:=by
  intro x hx;exact Oo
 have e:hvy hv (o.dst.getD n) o.op=true->σ'.bx=σ.bx/\σ'.ar=σ.ar:=λa=>c (by
  cases i:hvO hv o with
  |true=>rfl
  |false=>rw[aP3 (n:=n) i]at a;cases a)
 unfold Eff at*;grind [aO9,uN,Oper.looksAt,tV]
theorem lT(σ:St)(d:Option Nat)(v:V)(ms:List Mod):(σ.put d v ms).bx=(σ.apps ms).bx:=by cases d<;>rfl
theorem nX(σ:St)(d:Option Nat)(v:V)(ms:List Mod):(σ.put d v ms).ar=(σ.apps ms).ar:=by cases d<;>rfl
theorem bU(σ:St)(d:Option Nat)(v:V)(ms:List Mod){t:Nat}(h:d≠some t):(σ.put d v ms).env t=σ.env t:=by
 cases d with
 |none=>show(σ.apps ms).env t=_;rw[vM]
 |some d=>show upd (σ.apps ms).env d v t=_;rw[upd_ne _ _ (λe=>h (by rw[e])),vM]
theorem pI(σ:St)(d:Nat)(v:V)(ms:List Mod):(σ.put (some d) v ms).env d=v:=upd_same _ _ _
theorem put_comm{d b:Option Nat}{v v':V}{ms a:List Mod}(u:∀t,d=some t->b≠some t)(s:∀i,(∃m∈ms,m.isB i)->∀m∈a,¬m.isB i)(r:∀i,(∃m∈ms,m.isA i)->∀m∈a,¬m.isA i):
 (σ.put d v ms).put b v' a=(σ.put b v' a).put d v ms:=by
 have k:((σ.put d v ms).put b v' a).env=((σ.put b v' a).put d v ms).env:=by
  funext t;by_cases e:d=some t;grind [bU,pI];rw[bU _ d _ _ e];by_cases c:b=some t;subst c;rw[pI,pI];grind [bU]
 have l:((σ.put d v ms).put b v' a).bx=((σ.put b v' a).put d v ms).bx:=by
  funext i;rw[lT,lT];by_cases e:∃m∈ms,m.isB i;grind [jJ,lT,aI2];have c:∀m∈ms,¬m.isB i:=λm g f=>e ⟨m,g,f⟩;rw[jJ ms i _ c,lT];exact aI2 a i _ _ (.inr (by rw[lT,jJ ms i _ c]))
 have q:((σ.put d v ms).put b v' a).ar=((σ.put b v' a).put d v ms).ar:=by
  funext i;rw[nX,nX];by_cases e:∃m∈ms,m.isA i;grind [lW,nX,aI9];have c:∀m∈ms,¬m.isA i:=λm g f=>e ⟨m,g,f⟩;rw[lW ms i _ c,nX];exact aI9 a i _ _ (.inr (by rw[nX,lW ms i _ c]))
 generalize (σ.put d v ms).put b v' a=h at*;generalize (σ.put b v' a).put d v ms=j at*;cases h;cases j<;>simp_all
end
section
variable{T:Tab}{P:Program}{σ σ':St}{n d:Nat}{v v':V}{ms ms':List Mod}{ops:List Oper}{o p:Oper}{K:St->Prop}{hv:List (Nat×List Nat)}
def bA1{a b:Nat}(h:clash a b=false)(c:4<=a)(e:1<b):False:=KL
def dE0{a b:Nat}(h:clash a b=false)(c:4<=b)(e:1<a):False:=KL
def swap(X:∀x:Operand,(σ.ev x).ok σ.hasB σ.hasA)(W:Oper.apart ops.toArray p o=true)(s:clash (clsH hv p) (clsH hv o)=false)
 (Y:Eff T P hv n ops p σ v ms)(Z:Eff T P hv n ops o (σ.put p.dst v ms) v' ms'):
 Eff T P hv n ops o σ v' ms'/\Eff T P hv n ops p (σ.put o.dst v' ms') v ms/\(σ.put p.dst v ms).put o.dst v' ms'=(σ.put o.dst v' ms').put p.dst v ms:=by
 obtain⟨U,aa,ab⟩:=QI W
 have hnp:hvO hv p=false:=by
  cases hq:hvO hv p<;>simp_all [clsH,clash]
 have hno:hvO hv o=false:=by
  cases hq:hvO hv o<;>simp_all [clsH,clash]
 replace s:clash (cls p.op) (cls o.op)=false:=by
  unfold clsH at s;rw[hnp,hno]at s;exact s
 have R:=cO7 hnp Y;have S:=cO7 hno Z;generalize A:σ.put p.dst v ms=l at*
 have O:∀x∈o.op.operands,l.ev x=σ.ev x:=by
  intro x hx;cases x with
  |tmp t=>
   show l.env t=σ.env t;rw[<-A];refine bU _ _ _ _ (λe=>U t e ?_);exact N9
  |const v=>rfl
  |global g=>rfl
  |func f=>rfl
 have C:∀m∈ms,m.fresh σ\/(4<=cls p.op/\m.key σ.hasB σ.hasA):=λm q=>by
  rcases R m q with h|⟨h,c⟩;exact .inl h;exact .inr ⟨h,c _ _ λx _=>X x⟩
 have B:∀m∈ms',m.fresh l\/(4<=cls o.op/\m.key σ.hasB σ.hasA):=λm q=>by
  rcases S m q with h|⟨h,c⟩;exact .inl h;simp_all
 have M:l.bx=(σ.apps ms).bx:=by rw[<-A,lT]
 have L:l.ar=(σ.apps ms).ar:=by rw[<-A,nX]
 have G:∀i,σ.hasB i->l.bx i≠none:=λi ⟨cs,hi⟩=>by rw[M];exact aN6 _ _ _ (.inr (by rw[hi];simp))
 have F:∀k g,σ.hasA k g->l.ar k≠none:=λi g ⟨cs,hi,_⟩=>by rw[L];exact aO2 _ _ _ (.inr (by rw[hi];simp))
 have E:∀i,(∃m∈ms,m.isB i)->∀m∈ms',¬m.isB i:=by
  rintro i ⟨m,q,r⟩ H w z;cases m with
  |a=>exact r
  |b j cs=>
  cases H with
  |a=>exact z
  |b j' N=>
  cases r;cases z;rcases B _ w with h|⟨h,Q⟩;exact absurd h (by show l.bx i≠none;rw[M];exact aN6 _ _ _ (.inl ⟨_,q,rfl⟩));rcases C _ q with c|⟨c,_⟩;obtain⟨x,hx⟩:=Q;have u:σ.bx i=none:=c;rw[u]at hx;cases hx;exact bA1 s c Aa
 have D:∀i,(∃m∈ms,m.isA i)->∀m∈ms',¬m.isA i:=by
  rintro i ⟨m,q,r⟩ H w z;cases m with
  |b=>exact r
  |a j cs=>
  cases H with
  |b=>exact z
  |a j' N=>
  cases r;cases z;rcases B _ w with h|⟨h,Q⟩;exact absurd h (by show l.ar i≠none;rw[L];exact aO2 _ _ _ (.inl ⟨_,q,rfl⟩));rcases C _ q with c|⟨c,_⟩;obtain⟨g,x,hx,_⟩:=Q;have u:σ.ar i=none:=c;rw[u]at hx;cases hx;exact bA1 s c Aa
 refine⟨?_,?_,?_⟩
 ·refine mW (σ:=l) (λhq=>DN) ?_ ?_ ?_ Z
  ·grind [bU]
  ·intro I x hx
   rw[O x hx];refine V.ok.imp ?_ ?_ _ (X x)
   ·intro i hi
    rw[M];refine(jJ _ _ _ ?_).symm;intro m q r;cases m with
    |a=>exact r
    |b j cs=>
    cases r;rcases C _ q with c|⟨c,_⟩
    ·obtain⟨y,J⟩:=hi
     have u:σ.bx i=none:=c;rw[u]at J;cases J
    ·exact bA1 s c I
   ·intro i g hi
    rw[L];refine(lW _ _ _ ?_).symm;intro m q r;cases m with
    |b=>exact r
    |a j cs=>
    cases r;rcases C _ q with c|⟨c,_⟩
    ·obtain⟨y,J,_⟩:=hi
     have u:σ.ar i=none:=c;rw[u]at J;cases J
    ·exact bA1 s c I
  ·intro m q
   cases m with
   |b i cs=>
    show σ.bx i=l.bx i;rw[M];exact(jJ _ _ _ (λH w r=>E i ⟨H,w,r⟩ _ q rfl)).symm
   |a i cs=>
    show σ.ar i=l.ar i;rw[L];exact(lW _ _ _ (λH w r=>D i ⟨H,w,r⟩ _ q rfl)).symm
 ·refine mW (σ:=σ) (λhq=>DR) ?_ ?_ ?_ Y
  ·grind [bU]
  ·intro I x hx
   refine V.ok.imp ?_ ?_ _ (X x)
   ·intro i hi
    rw[lT];refine jJ _ _ _ ?_;intro m q r;cases m with
    |a=>exact r
    |b j cs=>
    cases r;rcases B _ q with c|⟨c,_⟩
    ·exact G i hi c
    ·exact dE0 s c I
   ·intro i g hi
    rw[nX];refine lW _ _ _ ?_;intro m q r;cases m with
    |b=>exact r
    |a j cs=>
    cases r;rcases B _ q with c|⟨c,_⟩
    ·exact F i g hi c
    ·exact dE0 s c I
  ·intro m q
   cases m with
   |b i cs=>
    show(σ.put o.dst v' ms').bx i=σ.bx i;rw[lT];exact jJ _ _ _ (E i ⟨_,q,rfl⟩)
   |a i cs=>
    show(σ.put o.dst v' ms').ar i=σ.ar i;rw[nX];exact lW _ _ _ (D i ⟨_,q,rfl⟩)
 ·grind [put_comm]
end
end Go.Ab
