/-
  An operation comes to one end.
-/
import Derived.Test.YtdjgbagnajikeaaGreatDoorA9
set_option linter.unusedVariables false
set_option linter.unusedSimpArgs false
noncomputable section
namespace Go.Ab
def Det(Φ:VK->Prop):Prop:=∀K,Φ K->∃v ms,K v ms/\∀K',K' v ms->Φ K'
def DetL(Φ:(List V->Prop)->Prop):Prop:=∀K,Φ K->∃l,K l/\∀K',K' l->Φ K'
theorem Det.ret(v:V)(ms:List Mod):Det (fun K=>K v ms):=fun _ h=>⟨v,ms,h,fun _ h=>h⟩
theorem Det.false:Det (fun _=>False):=fun _ h=>h.elim
theorem Det.need{p:Prop}{Φ:VK->Prop}(h:Det Φ):Det (fun K=>need p (Φ K)):=fun K hk=>by
 obtain⟨hp,hk⟩:=dX hk;obtain⟨v,ms,h1,h2⟩:=h K hk;exact⟨v,ms,h1,fun K' hk'=>by refine⟨?_⟩;exact⟨hp,h2 K' hk'⟩⟩
theorem Det.arith{k:IntKind}{n:Int}{Φ:Int->VK->Prop}(h:∀m,Det (Φ m)):Det (fun K=>arith k n fun m=>Φ m K):=fun K hk=>by
 obtain⟨v,ms,h1,h2⟩:=h _ K (wI hk);exact⟨v,ms,h1,fun K' hk'=>by refine⟨?_⟩;exact h2 K' hk'⟩
theorem Det.idx{l:List V}{i:Nat}{Φ:V->VK->Prop}(h:∀x,Det (Φ x)):Det (fun K=>idx l i fun x=>Φ x K):=fun K hk=>by
 obtain⟨x,hx,hk⟩:=cO3 hk;obtain⟨v,ms,h1,h2⟩:=h x K hk;exact⟨v,ms,h1,fun K' hk'=>by refine⟨?_⟩;exact⟨x,hx,h2 K' hk'⟩⟩
theorem Det.bytes{xs:List V}{Φ:List Int->VK->Prop}(h:∀ns,Det (Φ ns)):Det (fun K=>aZ0 xs fun ns=>Φ ns K):=fun K hk=>by
 obtain⟨ns,hx,hk⟩:=cC4 hk;obtain⟨v,ms,h1,h2⟩:=h ns K hk;exact⟨v,ms,h1,fun K' hk'=>by refine⟨?_⟩;exact⟨ns,hx,h2 K' hk'⟩⟩
theorem Det.map{es:List V}{s:Value}{z:V}{Φ:V->VK->Prop}(h:∀x,Det (Φ x)):Det (fun K=>eG6 es s z fun x=>Φ x K):=fun K hk=>by
 obtain⟨v,ms,h1,h2⟩:=h _ K hk.out;exact⟨v,ms,h1,fun K' hk'=>⟨h2 K' hk'⟩⟩
theorem Det.force{x:V}{Φ:V->VK->Prop}(h:∀x,Det (Φ x)):Det (fun K=>force x fun y=>Φ y K):=fun K hk=>by
 have hk':Ab.force x (fun y=>Φ y K):=hk;rw[force_eq]at hk';obtain⟨v,ms,h1,h2⟩:=h x K hk';exact⟨v,ms,h1,fun K' hk'=>by show Ab.force x (fun y=>Φ y K');rw[force_eq];exact h2 K' hk'⟩
theorem Det.bJ{l:List V}{Φ:List V->VK->Prop}(h:∀l,Det (Φ l)):Det (fun K=>bJ l fun y=>Φ y K):=fun K hk=>by
 have hk':Ab.bJ l (fun y=>Φ y K):=hk;rw[bC]at hk';obtain⟨v,ms,h1,h2⟩:=h l K hk';exact⟨v,ms,h1,fun K' hk'=>by show Ab.bJ l (fun y=>Φ y K');rw[bC];exact h2 K' hk'⟩
theorem Det.cond{b:Bool}{Φ Ψ:VK->Prop}(h:Det Φ)(h':Det Ψ):Det (fun K=>cond b (Φ K) (Ψ K)):=by
 cases b
 ·exact h'
 ·exact h
theorem Det.branch{b:Bool}{Φ Ψ:VK->Prop}(h:Det Φ)(h':Det Ψ):Det (fun K=>branch b (Φ K) (Ψ K)):=by
 cases b
 ·exact h'
 ·exact h
theorem Det.lF{σ:St}{x:V}{Φ:List V->VK->Prop}(h:∀l,Det (Φ l)):Det (fun K=>lF σ x fun l=>Φ l K):=by
 unfold Ab.lF;exact N7
theorem Det.contsK{k:Kd}{σ:St}{x:V}{Φ:List V->VK->Prop}(h:∀l,Det (Φ l)):Det (fun K=>contsK k σ x fun l=>Φ l K):=by
 unfold Ab.contsK;split
 ·exact Det.lF h
 ·exact h _
 ·exact Det.false
theorem Det.lV{σ:St}{x:V}{Φ:List V->VK->Prop}(h:∀l,Det (Φ l)):Det (fun K=>lV σ x fun l=>Φ l K):=by
 unfold Ab.lV;exact N7
theorem Det.bound{o:Option V}{dflt:Int}{Φ:Int->VK->Prop}(h:∀n,Det (Φ n)):Det (fun K=>bound o dflt fun n=>Φ n K):=by
 unfold Ab.bound
 cases o with
 |none=>exact h _
 |some v=>
  cases v with
  |lit u=>
   cases u with
   |int k n=>exact h n
   |_=>exact Det.false
  |_=>exact Det.false
theorem yF(r:Row)(cs:List V):Det (wB r cs):=by
 unfold wB
 cases r.agg with
 |true=>exact Det.bJ fun l=>Det.cond (Det.ret _ _) Det.false
 |false=>
  cases cs with
  |nil=>exact Det.false
  |cons x r=>exact Det.force fun v=>Det.ret _ _
theorem aR1(place:Nat->Option (Nat×Nat))(σ:St)(ps:List (Nat×Operand)):∀(cs:List V) (Φ:List V->VK->Prop),(∀l,Det (Φ l))->Det (fun K=>oI place σ ps cs fun l=>Φ l K):=by
 induction ps with
 |nil=>
  intro cs Φ h;exact Det.bJ (l:=cs) h
 |cons p r ih=>
  intro cs Φ h
  have hdef:∀K,oI place σ (p::r) cs K=(match place p.1 with
   |some (o,z)=>cond (Nat.beq (lenR (σ.ev p.2).cells) z&&Nat.ble (o+z) (lenR cs)&&allR V.one (σ.ev p.2).cells) (oI place σ r (splice cs o (σ.ev p.2).cells) K) False
   |none=>False):=fun K=>rfl
  simp only[hdef]
  cases place p.1 with
  |none=>exact Det.false
  |some q=>exact Det.cond (ih _ Φ h) Det.false
theorem bD9(T:Tab)(σ:St)(d:Nat)(o:Op):Det (opVC T σ d o):=by
 unfold opVC;split
 ·exact Det.force fun v=>Det.ret _ _
 ·exact Det.force fun v=>Det.ret _ _
 ·unfold bA8
  split
  ·exact Det.branch (Det.force fun v=>Det.ret _ _) (Det.force fun v=>Det.ret _ _)
  ·exact Det.false
 ·unfold unVC
  split
  ·exact Det.ret _ _
  ·exact Det.arith fun m=>Det.ret _ _
  ·exact Det.false
 ·unfold bD7
  split
  ·refine Det.cond ?_ ?_
   ·unfold cM6
    split<;>first|exact Det.arith fun m=>Det.ret _ _|exact Det.need (Det.arith fun m=>Det.ret _ _)|exact Det.need (Det.ret _ _)|exact Det.ret _ _|exact Det.false
   ·unfold shVC
    split<;>first|exact Det.need (Det.arith fun m=>Det.ret _ _)|exact Det.need (Det.ret _ _)|exact Det.false
  ·unfold cH0
   split<;>first|exact Det.need (Det.ret _ _)|exact Det.ret _ _|exact Det.false
  ·refine Det.cond ?_ Det.false
   unfold bG1;split<;>first|exact Det.ret _ _|exact Det.false
  ·refine Det.cond ?_ Det.false
   unfold aL1;split
   ·refine Det.need ?_
    split<;>first|exact Det.ret _ _|exact Det.false
   ·refine Det.need ?_
    split<;>first|exact Det.ret _ _|exact Det.false
   ·exact Det.false
  ·refine Det.cond ?_ Det.false
   unfold ptrVC;split<;>first|exact Det.ret _ _|exact Det.false
  ·exact Det.false
 ·unfold lM
  exact NS
 ·refine Det.cond ?_ Det.false
  unfold lM;exact NS
 ·refine Det.cond ?_ Det.false
  unfold jB;split
  ·refine Det.cond Det.false ?_
   split
   ·exact Det.ret _ _
   ·exact Det.bJ fun l=>Det.ret _ _
   ·exact Det.ret _ _
   ·exact Det.false
  ·exact Det.false
 ·refine Det.cond ?_ Det.false
  unfold aM2;split
  ·exact Det.cond (yF _ _) Det.false
  ·exact Det.false
 ·refine Det.cond ?_ Det.false
  unfold pW;split
  ·split
   ·exact yF _ _
   ·exact Det.false
  ·exact yF _ _
  ·split
   ·exact Det.need (Det.idx fun x=>Det.cond (yF _ _) Det.false)
   ·exact Det.false
  ·exact Det.false
 ·refine Det.cond ?_ Det.false
  unfold qU;split
  ·split
   ·exact Det.cond (Det.bJ fun l=>Det.ret _ _) Det.false
   ·exact Det.false
  ·split
   ·exact Det.need (Det.idx fun x=>Det.cond (Det.bJ fun l=>Det.ret _ _) Det.false)
   ·exact Det.false
  ·exact Det.false
 ·refine Det.cond ?_ Det.false
  unfold gI;split
  ·split
   ·exact Ko
   ·exact Ko
   ·split
    ·exact Det.need (Det.cond (Det.ret _ _) Det.false)
    ·exact Det.false
   ·exact Det.false
  ·split
   ·exact Det.cond (Det.ret _ _) Det.false
   ·exact Det.cond (Det.bJ fun l=>Det.ret _ _) Det.false
   ·exact Det.false
  ·exact Det.false
 ·refine Det.cond ?_ Det.false
  unfold aM6;split
  ·exact Det.need (Det.ret _ _)
  ·exact Det.cond (yF _ _) Det.false
  ·exact Det.false
 ·unfold wZ
  split
  ·split
   ·exact Det.force fun v=>Det.ret _ _
   ·exact Det.false
  ·exact Det.false
 ·exact Det.ret _ _
 ·exact Det.bJ fun xs=>Det.ret _ _
 ·refine Det.cond ?_ Det.false
  unfold vO;split
  ·exact aR1 _ _ _ _ (fun cs K=>K (.agg cs) []) fun l=>Det.ret _ _
  ·exact Det.cond (aR1 _ _ _ _ (fun cs K=>K (.agg cs) []) fun l=>Det.ret _ _) Det.false
  ·exact Det.false
 ·refine Det.cond ?_ Det.false
  unfold iZ;split
  ·refine Det.cond ?_ Det.false
   exact aR1 _ _ _ _ (fun cs K=>cond (allR V.atom cs) (K _ _) False) fun l=>Det.cond (Det.ret _ _) Det.false
  ·exact Det.false
 ·refine Det.cond ?_ Det.false
  unfold jY;split
  ·exact Det.need (Det.cond (Det.ret _ _) Det.false)
  ·exact Det.false
 ·refine Det.cond ?_ Det.false
  unfold sZ;split
  ·split
   ·exact Det.bound (Φ:=fun l K=>bound _ _ fun h=>need _ (K _ _)) fun l=>Det.bound (Φ:=fun h K=>need _ (K _ _)) fun h=>Det.need (Det.ret _ _)
   ·exact Det.false
  ·refine Det.cond ?_ Det.false
   refine Det.lV fun xs=>Det.bound fun l=>Det.bound fun h=>?_;split
   ·exact Det.need (Det.ret _ _)
   ·split
    ·exact Det.false
    ·exact Det.bound fun m=>Det.need (Det.ret _ _)
  ·exact Det.false
 ·unfold aF1
  split
  ·unfold convB
   split
   ·exact Det.cond (Det.need (Det.ret _ _)) Det.false
   ·exact Det.false
  ·exact Det.cond (Det.lF fun xs=>Det.bytes fun ns=>Det.ret _ _) Det.false
  unfold bE4;split
  ·exact Det.arith fun m=>Det.ret _ _
  ·exact Det.ret _ _
  ·exact Det.false
 ·refine Det.cond ?_ Det.false
  split
  ·unfold aE9
   split<;>first|exact Det.ret _ _|exact Det.false|(split<;>first|exact Det.need (Det.ret _ _)|exact Det.false)
  ·unfold aI4
   split<;>first|exact Det.ret _ _|exact Det.false
  ·exact Det.false
 ·refine Det.cond ?_ Det.false
  unfold kT;split
  ·refine Det.cond ?_ Det.false
   refine Det.contsK fun xs=>?_;split
   ·exact J4
   ·exact J4
   ·exact J4
   ·exact Det.false
  ·exact Det.false
 ·unfold rP
  split<;>first|exact Det.ret _ _|exact Det.false
 ·unfold rP
  split<;>first|exact Det.ret _ _|exact Det.false
 ·refine Det.cond ?_ Det.false
  unfold oN;split
  ·exact Det.cond (Det.ret _ _) Det.false
  ·exact Det.false
 ·refine Det.cond ?_ Det.false
  unfold rG;split
  ·split
   ·split
    ·refine Det.need (Det.cond ?_ Det.false)
     exact O0
    ·exact Det.false
   ·exact Det.false
  ·split
   ·refine Det.cond ?_ Det.false
    exact O0
   ·exact Det.false
  ·exact Det.false
 ·exact IL
 ·exact IL
 ·exact Det.cond (Det.force fun v=>Det.ret _ _) Det.false
 ·exact Det.false
theorem bQ5(σ:St)(d:Nat)(rs:List V):∀(j:Nat) (ro:Option (Nat×Nat)) (Φ:List V->List Mod->VK->Prop),(∀vs ms,Det (Φ vs ms))->Det (fun K=>uF σ d rs j ro fun vs ms=>Φ vs ms K):=by
 induction rs with
 |nil=>intro j ro Φ h;exact h [] []
 |cons y r ih=>
  intro j ro Φ h;simp only[qL];split
  ·exact Ja
  ·exact Ja
  ·exact KE
theorem dK3(σ:St)(d:Nat)(ro:Option (Nat×Nat))(r:V)(f:List Mod->List Mod):Det (fun K=>zZ σ d ro r fun v ms=>K v (f ms)):=by
 unfold zZ;split
 ·exact bQ5 _ _ _ _ _ (fun vs ms K=>K (.agg vs) (f ms)) fun vs ms=>Det.ret _ _
 ·exact bQ5 _ _ _ _ _ (fun vs ms K=>K (.tup vs) (f ms)) fun vs ms=>Det.ret _ _
 ·refine bQ5 _ _ _ _ _ (fun vs ms K=>match vs with|v::_=>K v (f ms)| [] =>False) fun vs ms=>?_
  cases vs with
  |nil=>exact Det.false
  |cons v r=>exact Det.ret _ _
theorem bT4{ar:Nat->Option AE}{ok:List Nat}{N:Nat}{kd:AK}{e:TypeId}{l:List V}{x:V}{Φ:V->Mod->VK->Prop}(h:∀v m,Det (Φ v m)):Det (fun K=>xO ar ok N kd e l x fun v m=>Φ v m K):=by
 unfold xO;split
 ·split
  ·split
   ·exact h _ _
   ·exact Det.false
  ·split
   ·exact h _ _
   ·exact Det.false
 ·split
  ·exact h _ _
  ·exact Det.false
theorem aR4(ar:Nat->Option AE)(is ok:List Nat)(ys:List V):∀(xs:List V) (N:Nat) (Φ:List V->List Mod->VK->Prop),(∀vs ms,Det (Φ vs ms))->Det (fun K=>oJ ar is ok ys xs N fun vs ms=>Φ vs ms K):=by
 induction ys with
 |nil=>
  intro xs N Φ h
  cases xs with
  |nil=>exact h [] []
  |cons x r=>exact Det.false
 |cons y r ih=>
  intro xs N Φ h
  cases xs with
  |nil=>exact Det.false
  |cons x xr=>
   simp only[zL];split
   ·exact Jb
   ·exact Jb
   ·exact KE
theorem bO6(bx:Nat->Option (List V))(ar:Nat->Option AE)(is0 ok:List Nat)(bs:List (List V)):∀(is:List Nat) (N:Nat) (Φ:List Mod->VK->Prop),(∀ms,Det (Φ ms))->Det (fun K=>aB3 bx ar is0 ok bs is N fun ms=>Φ ms K):=by
 induction bs with
 |nil=>
  intro is N Φ h
  cases is with
  |nil=>exact h []
  |cons x r=>exact Det.false
 |cons b r ih=>
  intro is N Φ h
  cases is with
  |nil=>exact Det.false
  |cons i ir=>
   simp only[aJ1];split
   ·exact aR4 _ _ _ _ _ _ (fun vs ms K=>aB3 bx ar is0 ok r ir (N+1000000) fun ns=>Φ (appR ms (.b i vs::ns)) K) fun vs ms=>ih _ _ (fun ns K=>Φ _ K) fun ns=>h _
   ·exact Det.false
theorem dO0(bx:Nat->Option (List V))(ar:Nat->Option AE)(is ok:List Nat)(d:Nat)(r:V)(bs:List (List V))(f:List Mod->List Mod):Det (fun K=>aX2 bx ar is ok d r bs fun v ms=>K v (f ms)):=by
 unfold aX2;split
 ·exact aR4 _ _ _ _ _ _ (fun vs ms K=>aB3 bx ar is ok bs is (d+1000000) fun ns=>K (.tup vs) (f (appR ms ns))) fun vs ms=>bO6 _ _ _ _ _ _ _ (fun ns K=>K _ _) fun ns=>Det.ret _ _
 ·refine aR4 _ _ _ _ _ _ (fun vs ms K=>match vs with|v::_=>aB3 bx ar is ok bs is (d+1000000) fun ns=>K v (f (appR ms ns))| [] =>False) fun vs ms=>?_
  cases vs with
  |nil=>exact Det.false
  |cons v r=>exact bO6 _ _ _ _ _ _ _ (fun ns K=>K _ _) fun ns=>Det.ret _ _
theorem cJ6(T:Tab)(P:Program)(light:Md)(σ:St)(d:Nat)(f:FuncId)(xs:List V):Det (kY T P light σ d f xs):=by
 intro K h;rcases h.out with⟨ys,r,lend,h1,h2,h3,h4⟩|⟨h0,ys,r,j,k,g,e,l,l',h1,h2,h3,h4,h5,h6,h7⟩|⟨ys,is,bs,r,bs',h0,h1,h2,h3,h4⟩|⟨h0,ys,cells,h1,h2,h3,h4,h5⟩
 case inr.inl=>exact⟨r,_,h7,fun K' hk=>⟨.inr (.inl ⟨h0,ys,r,j,k,g,e,l,l',h1,h2,h3,h4,h5,h6,hk⟩)⟩⟩
 case inr.inr.inr=>exact⟨_,_,h5,fun K' hk=>⟨.inr (.inr (.inr ⟨h0,ys,cells,h1,h2,h3,h4,hk⟩))⟩⟩
 case inr.inr.inl=>
  obtain⟨v,ms,q1,q2⟩:=dO0 σ.bx σ.ar is (ownG ((xs,ys)::eU σ.bx bs is)) d r bs' (fun ms=>appR (aV σ (mF ((xs,ys)::eU σ.bx bs is))) (appR (aX σ (ownG ((xs,ys)::eU σ.bx bs is))) ms)) K h4;exact⟨v,ms,q1,fun K' hk=>⟨.inr (.inr (.inl ⟨ys,is,bs,r,bs',h0,h1,h2,h3,q2 K' hk⟩))⟩⟩
 obtain⟨v,ms,q1,q2⟩:=dK3 σ d (reuse σ (bD ys xs)) r (fun ms=>appR (cond lend [] (aV σ (bK ys xs))) (appR (aX σ (bD ys xs)) ms)) K h4;refine⟨v,ms,q1,fun K' hk=>?_⟩;refine⟨.inl ?_⟩;exact⟨ys,r,lend,h1,h2,h3,q2 K' hk⟩
theorem bU4(T:Tab)(P:Program)(light:Md)(σ:St)(d:Nat)(op:Op):Det (bW T P light σ d op)\/(light= .free/\∃bop t c l,∀K,bW T P light σ d op K=bV3 T bop t c l K):=by
 unfold bW;split
 ·exact .inl (Det.bJ fun xs=>cJ6 _ _ _ _ _ _ _)
 ·refine .inl ?_
  split
  ·exact Det.cond (Det.bJ fun xs=>cJ6 _ _ _ _ _ _ _) Det.false
  ·exact Det.false
 ·refine .inl ?_
  have shift:∀(σ1:St) (o:Op) (m:Mod),Det (fun K=>opVC T σ1 d o fun v ms=>K v (m::ms)):=fun σ1 o m K h=>by
   obtain⟨v,ms,q1,q2⟩:=bD9 T σ1 d o _ h;exact⟨v,m::ms,q1,fun K' hk=>q2 _ hk⟩
  split
  ·split
   ·exact shift _ _ _
   ·exact shift _ _ _
   ·exact bD9 _ _ _ _
  ·exact bD9 _ _ _ _
 ·split
  ·exact .inr ⟨rfl,_,_,_,_,fun K=>rfl⟩
  ·exact .inl (bD9 _ _ _ _)
 ·exact .inl (bD9 _ _ _ _)
theorem cH1(T:Tab)(P:Program)(hv:List (Nat×List Nat))(σ:St)(d:Nat)(op:Op):Det (bW T P (.drawn hv) σ d op):=by
 rcases bU4 T P (.drawn hv) σ d op with h|⟨h,_⟩
 ·exact h
 ·cases h
theorem aR8{T:Tab}{P:Program}{light:Md}{σ:St}{d:Nat}{op:Op}{K1 K2:VK}(hk:∀v ms,K1 v ms->K2 v ms)(h:bW T P light σ d op K1):bW T P light σ d op K2:=by
 rcases bU4 T P light σ d op with hd|⟨_,bop,t,c,l,he⟩
 ·obtain⟨v,ms,q1,q2⟩:=hd K1 h
  exact q2 K2 (hk v ms q1)
 ·rw[he]at h⊢
  exact⟨h.c0,h.ty,h.kd,h.op,fun b hb=>hk _ _ (h.out b hb)⟩
def Is(v:V)(ms:List Mod):VK:=fun v' ms'=>v'=v/\ms'=ms
def Mod.same(σ σ':St):Mod->Prop
 | .b i _=>σ'.bx i=σ.bx i
 | .a k _=>σ'.ar k=σ.ar k
def Mod.fresh(σ:St):Mod->Prop
 | .b i _=>σ.bx i=none
 | .a k _=>σ.ar k=none
def Mod.key(p:Nat->Prop)(q:Nat->Nat->Prop):Mod->Prop
 | .b i _=>p i
 | .a k _=>∃g,q k g
abbrev V.agr(σ σ':St)(x:V):Prop:=x.ok (fun i=>σ'.bx i=σ.bx i) (fun k _=>σ'.ar k=σ.ar k)
section
variable{T:Tab}{P:Program}{σ σ':St}{d:Nat}{v:V}{ms:List Mod}
theorem bJ6{cs:List V}(hm:∀m∈ms,m.same σ σ')(h:lM σ d cs (Is v ms)):lM σ' d cs (Is v ms):=by
 unfold lM at*;split at h
 ·rename_i hb
  have h':=h;rw[bC]at h';obtain⟨_,h2⟩:=aT h';have:=hm (.b d cs) (by rw[<-h2.2];simp)
  rw[show σ'.bx d=none from this.trans hb];exact h
 ·exact h.elim
theorem dW7{r:Row}{x:V}(hx:x.agr σ σ')(h:pW r σ x (Is v ms)):pW r σ' x (Is v ms):=by
 unfold pW at*;cases x<;>simp only at h⊢
 case box i off=>simp only[V.agr,V.ok]at hx;rw[hx];exact h
 case fp cs=>exact h
 case ae k g sz i off=>simp only[V.agr,V.ok]at hx;rw[hx];exact h
theorem dJ9{r:Row}{x y:V}(hx:x.agr σ σ')(h:qU r σ x y (Is v ms)):qU r σ' x y (Is v ms):=by
 unfold qU at*;cases x<;>simp only at h⊢
 case box i off=>simp only[V.agr,V.ok]at hx;rw[hx];exact h
 case ae k g sz i off=>simp only[V.agr,V.ok]at hx;rw[hx];exact h
theorem bO4{r:Row}{x i:V}(hx:x.agr σ σ')(h:gI T r σ x i (Is v ms)):gI T r σ' x i (Is v ms):=by
 cases x
 case arr k g=>
  simp only[V.agr,V.ok]at hx;unfold gI at*;simp only[hx]at h⊢;exact h
 all_goals exact h
theorem bS6{x:V}{K:List V->Prop}(hx:x.agr σ σ')(h:lF σ x K):lF σ' x K:=by
 unfold lF at h;split at h
 ·exact h
 ·exact h
 ·exact h
 ·rename_i k g
  simp only[V.agr,V.ok]at hx;unfold lF;simp only[hx];exact h
 ·exact h.elim
theorem dA4{x:V}{K:List V->Prop}(hx:x.agr σ σ')(h:lV σ x K):lV σ' x K:=by
 unfold lV at h;split at h
 ·exact h
 ·exact h
 ·exact h
 ·rename_i k g
  simp only[V.agr,V.ok]at hx;unfold lV;simp only[hx];exact h
 ·exact h.elim
theorem eN2{x:V}(hx:x.agr σ σ')(h:aE9 σ x (Is v ms)):aE9 σ' x (Is v ms):=by
 unfold aE9 at h;split at h
 ·exact h
 ·exact h
 ·exact h
 ·rename_i k g
  simp only[V.agr,V.ok]at hx;unfold aE9;simp only[hx];exact h
 ·exact h.elim
theorem dK8{r:Row}{x:V}{lo hi mx:Option V}(hx:x.agr σ σ')(h:sZ T r σ x lo hi mx (Is v ms)):sZ T r σ' x lo hi mx (Is v ms):=by
 unfold sZ at*;split at h
 ·exact h
 ·rename_i hkd
  obtain⟨h1,h2⟩:=aT h;have h3:=dA4 hx h2;rw[h1];exact h3
 ·exact h.elim
theorem aS7{place:Nat->Option (Nat×Nat)}{ps:List (Nat×Operand)}:∀ {cs:List V} {K:List V->Prop},(∀p∈ps,σ'.ev p.2=σ.ev p.2)->oI place σ ps cs K->oI place σ' ps cs K:=by
 induction ps with
 |nil=>intro cs K _ h;exact h
 |cons p r ih=>
  intro cs K he h
  have hdef:∀(σ:St) K,oI place σ (p::r) cs K=(match place p.1 with
   |some (o,z)=>cond (Nat.beq (lenR (σ.ev p.2).cells) z&&Nat.ble (o+z) (lenR cs)&&allR V.one (σ.ev p.2).cells) (oI place σ r (splice cs o (σ.ev p.2).cells) K) False
   |none=>False):=fun σ K=>rfl
  rw[hdef]at h⊢;rw[he p Ae];split at h
  ·obtain⟨h1,h2⟩:=aT h
   simp only[h1];exact ih (fun q hq=>he q (by simp[hq])) h2
  ·exact h.elim
theorem aU7{place:Nat->Option (Nat×Nat)}{ps:List (Nat×Operand)}:∀ {cs:List V} {K:List V->Prop},oI place σ ps cs K->∃cs',K cs':=by
 induction ps with
 |nil=>intro cs K h;have h':bJ cs K:=h;rw[bC]at h';exact⟨_,h'⟩
 |cons p r ih=>
  intro cs K h
  have hdef:∀(σ:St) K,oI place σ (p::r) cs K=(match place p.1 with
   |some (o,z)=>cond (Nat.beq (lenR (σ.ev p.2).cells) z&&Nat.ble (o+z) (lenR cs)&&allR V.one (σ.ev p.2).cells) (oI place σ r (splice cs o (σ.ev p.2).cells) K) False
   |none=>False):=fun σ K=>rfl
  rw[hdef]at h;split at h
  ·obtain⟨h1,h2⟩:=aT h
   exact ih h2
  ·exact h.elim
theorem dM6{r:Row}{ps:List (Nat×Operand)}(he:∀p∈ps,σ'.ev p.2=σ.ev p.2)(h:vO T r σ ps (Is v ms)):vO T r σ' ps (Is v ms):=by
 unfold vO at*;split at h
 ·exact aS7 he h
 ·obtain⟨h1,h2⟩:=aT h
  rw[h1];exact aS7 he h2
 ·exact h.elim
theorem bB6{r:Row}{n:Nat}{ps:List (Nat×Operand)}(he:∀p∈ps,σ'.ev p.2=σ.ev p.2)(hm:∀m∈ms,m.same σ σ')(h:iZ T r σ d n ps (Is v ms)):iZ T r σ' d n ps (Is v ms):=by
 unfold iZ at*;split at h
 ·rename_i hkd hd
  obtain⟨h1,h2⟩:=aT h;obtain⟨cs',h3⟩:=aU7 h2;obtain⟨_,_,h4⟩:=aT h3;have:=hm _ Ba;simp only[show σ'.ar d=none from this.trans hd,hkd];rw[h1];exact aS7 he h2
 ·exact h.elim
theorem bN2{r:Row}{n c:V}(hm:∀m∈ms,m.same σ σ')(h:jY T r σ d n c (Is v ms)):jY T r σ' d n c (Is v ms):=by
 unfold jY at*;split at h
 ·rename_i hkd hd
  have h':=(dX h).2;obtain⟨_,_,h4⟩:=aT h';have:=hm _ Ba
  simp only[show σ'.ar d=none from this.trans hd,hkd];exact h
 ·exact h.elim
theorem eQ1{x:V}{K:List V->Prop}(h:lF σ x K):∃l,K l:=by
 unfold lF at h;exact Na
theorem eK7{x:V}{K:List V->Prop}(h:lV σ x K):∃l,K l:=by
 unfold lV at h;exact Na
theorem cS8{x:V}{K K':List V->Prop}(hk:∀l,K l->K' l)(h:lF σ x K):lF σ x K':=by
 unfold lF at*;split at h
 ·exact hk _ h
 ·exact hk _ h
 ·exact hk _ h
 ·split at h
  ·obtain⟨h1,h2⟩:=dX h
   refine⟨?_⟩;exact⟨h1,hk _ h2⟩
  ·exact h.elim
 ·exact h.elim
theorem contsK_p{k:Kd}{x:V}{K:List V->Prop}(h:contsK k σ x K):∃l,K l:=by
 unfold contsK at h;split at h
 ·exact eQ1 h
 ·exact⟨_,h⟩
 ·exact h.elim
theorem contsK_mono{k:Kd}{x:V}{K K':List V->Prop}(hk:∀l,K l->K' l)(h:contsK k σ x K):contsK k σ x K':=by
 unfold contsK at*;split at h
 ·exact cS8 hk h
 ·exact hk _ h
 ·exact h.elim
theorem loc_contsK{k:Kd}{x:V}{K:List V->Prop}(hx:x.agr σ σ')(h:contsK k σ x K):contsK k σ' x K:=by
 unfold contsK at*;split at h
 ·exact bS6 hx h
 ·exact h
 ·exact h.elim
theorem cY6{r:Row}{k':Kd}{s x:V}(hs:s.agr σ σ')(hx:x.agr σ σ')(hm:∀m∈ms,m.same σ σ')(h:kT T r k' σ d s x (Is v ms)):kT T r k' σ' d s x (Is v ms):=by
 unfold kT at*;split at h
 ·rename_i hkd
  obtain⟨h1,h2⟩:=aT h;rw[h1];refine loc_contsK hx (contsK_mono (fun xs h=>?_) h2);split at h
  ·exact Jd
  ·exact Jd
  ·rename_i k g
   simp only[V.agr,V.ok]at hs;simp only[hs];exact h
  ·exact h.elim
 ·exact h.elim
end
section
variable{T:Tab}{P:Program}{σ σ':St}{d:Nat}{v:V}{ms:List Mod}
theorem yL{α β:Type}{f g:α->β}{l:List α}(h:∀x∈l,f x=g x):mapR f l=mapR g l:=by
 rw[dU,dU];exact List.map_congr_left h
theorem cL5{t:TypeId}(hm:∀m∈ms,m.same σ σ')(h:oN T t σ d (Is v ms)):oN T t σ' d (Is v ms):=by
 unfold oN at*;split at h
 ·rename_i hd
  obtain⟨h1,_,h4⟩:=aT h;have:=hm _ Ba;simp only[show σ'.ar d=none from this.trans hd];exact h
 ·exact h.elim
theorem cX0{t:TypeId}{x y:V}(hx:x.agr σ σ')(h:rG T t σ x y (Is v ms)):rG T t σ' x y (Is v ms):=by
 unfold rG at*;split at h
 ·rename_i k g s
  simp only[V.agr,V.ok]at hx;rw[hx];exact h
 ·exact h
 ·exact h.elim
theorem aH2{t:TypeId}{x y z:V}(hx:x.agr σ σ')(h:iE T t σ x y z (Is v ms)):iE T t σ' x y z (Is v ms):=by
 unfold iE at*;split at h
 ·rename_i k g s
  simp only[V.agr,V.ok]at hx;rw[hx];exact h
 ·exact h.elim
theorem cW0{op:Op}(he:∀x∈op.operands,σ'.ev x=σ.ev x)(ha:1<cls op->∀x∈op.operands,(σ.ev x).agr σ σ')(hm:∀m∈ms,m.same σ σ')(h:opVC T σ d op (Is v ms)):opVC T σ' d op (Is v ms):=by
 unfold opVC at h;split at h<;>unfold opVC<;>simp only
 ·rw[he _ Ai];exact h
 ·rw[he _ Ai];exact h
 ·rename_i c a b
  rw[he c Ai,he a Ai,he b Ai];exact h
 ·rw[he _ Ai];exact h
 ·rename_i x y _
  rw[he x Ai,he y Ai];exact h
 ·rw[he _ Ai];exact bJ6 hm h
 ·obtain⟨h1,h2⟩:=aT h
  rw[h1];exact bJ6 hm h2
 ·rw[he _ Ai];exact h
 ·rw[he _ Ai];exact h
 ·rename_i x
  obtain⟨h1,h2⟩:=aT h;rw[h1,he x Ai];exact dW7 (ha A7 x Ai) h2
 ·rename_i x y
  obtain⟨h1,h2⟩:=aT h;rw[h1,he x Ai,he y Ai];exact dJ9 (ha A7 x Ai) h2
 ·rename_i x y
  obtain⟨h1,h2⟩:=aT h;rw[h1,he x Ai,he y Ai];exact bO4 (ha A7 x Ai) h2
 ·rename_i x y
  rw[he x Ai,he y Ai];exact h
 ·rw[he _ Ai];exact h
 ·exact h
 ·rename_i x xs
  have hm':mapR σ'.ev (x::xs)=mapR σ.ev (x::xs):=by
   rw[dU,dU];refine List.map_congr_left fun y hy=>he y ?_;simp[Op.operands]at hy⊢;exact hy
  rw[hm'];exact h
 ·rename_i ps
  obtain⟨h1,h2⟩:=aT h;rw[h1];refine dM6 (fun p hp=>he p.2 ?_) h2;exact NZ
 ·rename_i ps
  obtain⟨h1,h2⟩:=aT h;rw[h1];refine bB6 (fun p hp=>he p.2 ?_) hm h2;exact NZ
 ·rename_i x y
  obtain⟨h1,h2⟩:=aT h;rw[h1,he x Ai,he y Ai];exact bN2 hm h2
 ·rename_i x lo hi mx
  obtain⟨h1,h2⟩:=aT h
  have hl:lo.map σ'.ev=lo.map σ.ev:=by
   cases lo with
   |none=>rfl
   |some y=>simp[he y Ai]
  have hh:hi.map σ'.ev=hi.map σ.ev:=by
   cases hi with
   |none=>rfl
   |some y=>simp[he y Ai]
  have hx:mx.map σ'.ev=mx.map σ.ev:=by
   cases mx with
   |none=>rfl
   |some y=>simp[he y Ai]
  rw[h1,he x Ai,hl,hh,hx];exact dK8 (ha A7 x Ai) h2
 ·rename_i x
  rw[he x Ai];unfold aF1 at h⊢;split at h
  ·unfold convB at h⊢
   split at h
   ·rename_i hd hx
    obtain⟨h1,h2⟩:=aT h;obtain⟨_,_,h4⟩:=dX h2;have:=hm _ Ba;simp only[show σ'.ar d=none from this.trans hd,hx];exact h
   ·exact h.elim
  ·obtain⟨h1,h2⟩:=aT h
   rw[h1];exact bS6 (ha A7 x Ai) h2
  ·exact h
 ·rename_i x t
  obtain⟨h1,h2⟩:=aT h;rw[h1,he x AL];split at h2
  ·exact eN2 (ha A7 x AL) h2
  ·exact h2
  ·exact h2.elim
 ·rename_i s x t t'
  obtain⟨h1,h2⟩:=aT h;rw[h1,he x AL,he s AL];exact cY6 (ha A7 s AL) (ha A7 x AL) hm h2
 ·rw[yL (g:=σ.ev) fun x hx=>he x Ce];exact h
 ·rw[yL (g:=σ.ev) fun x hx=>he x Ce];exact h
 ·obtain⟨h1,h2⟩:=aT h
  rw[h1];exact cL5 hm h2
 ·rename_i t x y
  obtain⟨h1,h2⟩:=aT h;rw[h1,he x Ai,he y Ai];exact cX0 (ha A7 x Ai) h2
 ·exact JA
 ·exact JA
 ·rw[he _ Ai];exact h
 ·exact h.elim
def Mo(R:List Mod->Prop)(Φ:VK->Prop):Prop:=∀K,Φ K->∃v ms,K v ms/\R ms
variable{R:List Mod->Prop}
theorem Mo.ret(v:V){ms:List Mod}(h:R ms):Mo R (fun K=>K v ms):=fun _ hk=>⟨v,ms,hk,h⟩
theorem Mo.false:Mo R (fun _=>False):=fun _ h=>h.elim
theorem Mo.need{p:Prop}{Φ:VK->Prop}(h:p->Mo R Φ):Mo R (fun K=>need p (Φ K)):=fun K hk=>h (dX hk).1 K (dX hk).2
theorem Mo.arith{k:IntKind}{n:Int}{Φ:Int->VK->Prop}(h:∀m,Mo R (Φ m)):Mo R (fun K=>arith k n fun m=>Φ m K):=fun K hk=>h _ K (wI hk)
theorem Mo.idx{l:List V}{i:Nat}{Φ:V->VK->Prop}(h:∀x,Mo R (Φ x)):Mo R (fun K=>idx l i fun x=>Φ x K):=fun K hk=>by
 obtain⟨x,hx,hk⟩:=cO3 hk;exact h x K hk
theorem Mo.bytes{xs:List V}{Φ:List Int->VK->Prop}(h:∀ns,Mo R (Φ ns)):Mo R (fun K=>aZ0 xs fun ns=>Φ ns K):=fun K hk=>by
 obtain⟨ns,hx,hk⟩:=cC4 hk;exact h ns K hk
theorem Mo.force{x:V}{Φ:V->VK->Prop}(h:∀x,Mo R (Φ x)):Mo R (fun K=>force x fun y=>Φ y K):=fun K hk=>by
 have hk':Ab.force x (fun y=>Φ y K):=hk;rw[force_eq]at hk';exact h x K hk'
theorem Mo.bJ{l:List V}{Φ:List V->VK->Prop}(h:∀l,Mo R (Φ l)):Mo R (fun K=>bJ l fun y=>Φ y K):=fun K hk=>by
 have hk':Ab.bJ l (fun y=>Φ y K):=hk;rw[bC]at hk';exact h l K hk'
theorem Mo.cond{b:Bool}{Φ Ψ:VK->Prop}(h:Mo R Φ)(h':Mo R Ψ):Mo R (fun K=>cond b (Φ K) (Ψ K)):=by
 cases b
 ·exact h'
 ·exact h
theorem Mo.branch{b:Bool}{Φ Ψ:VK->Prop}(h:Mo R Φ)(h':Mo R Ψ):Mo R (fun K=>branch b (Φ K) (Ψ K)):=by
 cases b
 ·exact h'
 ·exact h
theorem Mo.lF{x:V}{Φ:List V->VK->Prop}(h:∀l,Mo R (Φ l)):Mo R (fun K=>lF σ x fun l=>Φ l K):=fun K hk=>by
 obtain⟨l,hl⟩:=eQ1 (K:=fun l=>Φ l K) hk;exact h l K hl
theorem Mo.contsK{k:Kd}{x:V}{Φ:List V->VK->Prop}(h:∀l,Mo R (Φ l)):Mo R (fun K=>contsK k σ x fun l=>Φ l K):=fun K hk=>by
 obtain⟨l,hl⟩:=contsK_p (K:=fun l=>Φ l K) hk;exact h l K hl
theorem Mo.lV{x:V}{Φ:List V->VK->Prop}(h:∀l,Mo R (Φ l)):Mo R (fun K=>lV σ x fun l=>Φ l K):=fun K hk=>by
 obtain⟨l,hl⟩:=eK7 (K:=fun l=>Φ l K) hk;exact h l K hl
theorem Mo.bound{o:Option V}{dflt:Int}{Φ:Int->VK->Prop}(h:∀n,Mo R (Φ n)):Mo R (fun K=>bound o dflt fun n=>Φ n K):=fun K hk=>by
 unfold Ab.bound at hk;split at hk
 ·exact h _ K hk
 ·exact h _ K hk
 ·exact hk.elim
theorem rM(hn:R [])(r:Row)(cs:List V):Mo R (wB r cs):=by
 unfold wB
 cases r.agg with
 |true=>exact Mo.bJ fun l=>Mo.cond (Mo.ret _ hn) Mo.false
 |false=>
  cases cs with
  |nil=>exact Mo.false
  |cons x r=>exact Mo.force fun v=>Mo.ret _ hn
theorem Mo.oI{place:Nat->Option (Nat×Nat)}{ps:List (Nat×Operand)}{cs:List V}{Φ:List V->VK->Prop}(h:∀l,Mo R (Φ l)):Mo R (fun K=>oI place σ ps cs fun l=>Φ l K):=fun K hk=>by
 obtain⟨l,hl⟩:=aU7 (K:=fun l=>Φ l K) hk;exact h l K hl
theorem bS7(hf:∀cs,σ.bx d=none->R [.b d cs])(cs:List V):Mo R (lM σ d cs):=by
 unfold lM;split
 ·rename_i hb
  exact Mo.bJ fun l=>Mo.cond (Mo.ret _ (hf l hb)) Mo.false
 ·exact Mo.false
def Fr1(σ:St)(op:Op)(m:Mod):Prop:=m.fresh σ\/(4<=cls op/\∀p q,(∀x∈op.operands,(σ.ev x).ok p q)->m.key p q)
theorem bY1(T:Tab)(σ:St)(d:Nat)(o:Op):Mo (fun ms=>∀m∈ms,Fr1 σ o m) (opVC T σ d o):=by
 have hn:∀m∈([] :List Mod),Fr1 σ o m:=fun m hm=>Bg;have h1:∀m0:Mod,Fr1 σ o m0->∀m∈[m0],Fr1 σ o m:=fun m0 hm m h=>by cases List.mem_singleton.1 h;exact hm
 unfold opVC;split
 ·exact Mo.force fun v=>Mo.ret _ hn
 ·exact Mo.force fun v=>Mo.ret _ hn
 ·unfold bA8
  split
  ·exact Mo.branch (Mo.force fun v=>Mo.ret _ hn) (Mo.force fun v=>Mo.ret _ hn)
  ·exact Mo.false
 ·unfold unVC
  split
  ·exact Mo.ret _ hn
  ·exact Mo.arith fun m=>Mo.ret _ hn
  ·exact Mo.false
 ·unfold bD7
  split
  ·refine Mo.cond ?_ ?_
   ·unfold cM6
    split<;>first|exact Mo.arith fun m=>Mo.ret _ hn|exact Mo.need (fun hp=>Mo.arith fun m=>Mo.ret _ hn)|exact Mo.need (fun hp=>Mo.ret _ hn)|exact Mo.ret _ hn|exact Mo.false
   ·unfold shVC
    split<;>first|exact Mo.need (fun hp=>Mo.arith fun m=>Mo.ret _ hn)|exact Mo.need (fun hp=>Mo.ret _ hn)|exact Mo.false
  ·unfold cH0
   split<;>first|exact Mo.need (fun hp=>Mo.ret _ hn)|exact Mo.ret _ hn|exact Mo.false
  ·refine Mo.cond ?_ Mo.false
   unfold bG1;split<;>first|exact Mo.ret _ hn|exact Mo.false
  ·refine Mo.cond ?_ Mo.false
   unfold aL1;split
   ·exact KD
   ·exact KD
   ·exact Mo.false
  ·refine Mo.cond ?_ Mo.false
   unfold ptrVC;split<;>first|exact Mo.ret _ hn|exact Mo.false
  ·exact Mo.false
 ·exact bS7 (σ:=σ) (d:=d) (fun cs hb=>h1 (.b d cs) (.inl hb)) _
 ·exact Mo.cond (bS7 (σ:=σ) (d:=d) (fun cs hb=>h1 (.b d cs) (.inl hb)) _) Mo.false
 ·refine Mo.cond ?_ Mo.false
  unfold jB;split
  ·refine Mo.cond Mo.false ?_
   split
   ·exact Mo.ret _ hn
   ·exact Mo.bJ fun l=>Mo.ret _ hn
   ·exact Mo.ret _ hn
   ·exact Mo.false
  ·exact Mo.false
 ·refine Mo.cond ?_ Mo.false
  unfold aM2;split
  ·exact Mo.cond (rM hn _ _) Mo.false
  ·exact Mo.false
 ·refine Mo.cond ?_ Mo.false
  unfold pW;split
  ·split
   ·exact rM hn _ _
   ·exact Mo.false
  ·exact rM hn _ _
  ·split
   ·exact Mo.need (fun hp=>Mo.idx fun x=>Mo.cond (rM hn _ _) Mo.false)
   ·exact Mo.false
  ·exact Mo.false
 ·refine Mo.cond ?_ Mo.false
  unfold qU;rename_i x0 y0;split
  ·rename_i i off hx
   split
   ·refine Mo.cond (Mo.bJ fun l=>Mo.ret _ (h1 (.b i l) (.inr ⟨A7,fun p q hok=>?_⟩))) Mo.false
    have:=hok x0 Ai;rw[hx]at this;simp only[V.ok]at this;exact this
   ·exact Mo.false
  ·rename_i k g sz i off hx
   split
   ·refine Mo.need (fun hp=>Mo.idx fun x=>Mo.cond (Mo.bJ fun l=>Mo.ret _ (h1 (.a k _) (.inr ⟨A7,fun p q hok=>?_⟩))) Mo.false)
    have:=hok x0 Ai;exact O9
   ·exact Mo.false
  ·exact Mo.false
 ·refine Mo.cond ?_ Mo.false
  unfold gI;split
  ·split
   ·exact JW
   ·exact JW
   ·split
    ·exact Mo.need (fun hp=>Mo.cond (Mo.ret _ hn) Mo.false)
    ·exact Mo.false
   ·exact Mo.false
  ·split
   ·exact Mo.cond (Mo.ret _ hn) Mo.false
   ·exact Mo.cond (Mo.bJ fun l=>Mo.ret _ hn) Mo.false
   ·exact Mo.false
  ·exact Mo.false
 ·refine Mo.cond ?_ Mo.false
  unfold aM6;split
  ·exact Mo.need (fun hp=>Mo.ret _ hn)
  ·exact Mo.cond (rM hn _ _) Mo.false
  ·exact Mo.false
 ·unfold wZ
  split
  ·split
   ·exact Mo.force fun v=>Mo.ret _ hn
   ·exact Mo.false
  ·exact Mo.false
 ·exact Mo.ret _ hn
 ·exact Mo.bJ fun xs=>Mo.ret _ hn
 ·refine Mo.cond ?_ Mo.false
  unfold vO;split
  ·exact Mo.oI (Φ:=fun cs K=>K (.agg cs) []) fun l=>Mo.ret _ hn
  ·exact Mo.cond (Mo.oI (Φ:=fun cs K=>K (.agg cs) []) fun l=>Mo.ret _ hn) Mo.false
  ·exact Mo.false
 ·refine Mo.cond ?_ Mo.false
  unfold iZ;split
  ·rename_i hd
   refine Mo.cond ?_ Mo.false;exact Mo.oI (Φ:=fun cs K=>cond (allR V.atom cs) (K _ _) False) fun l=>Mo.cond (Mo.ret _ (h1 (.a d _) (.inl hd))) Mo.false
  ·exact Mo.false
 ·refine Mo.cond ?_ Mo.false
  unfold jY;split
  ·rename_i hd _ _
   exact Mo.need (fun hp=>Mo.cond (Mo.ret _ (h1 (.a d _) (.inl hd))) Mo.false)
  ·exact Mo.false
 ·refine Mo.cond ?_ Mo.false
  unfold sZ;split
  ·split
   ·exact Mo.bound (Φ:=fun l K=>bound _ _ fun h=>need _ (K _ _)) fun l=>Mo.bound (Φ:=fun h K=>need _ (K _ _)) fun h=>Mo.need (fun hp=>Mo.ret _ hn)
   ·exact Mo.false
  ·refine Mo.cond ?_ Mo.false
   refine Mo.lV fun xs=>Mo.bound fun l=>Mo.bound fun h=>?_;split
   ·exact Mo.need (fun hp=>Mo.ret _ hn)
   ·split
    ·exact Mo.false
    ·exact Mo.bound fun m=>Mo.need (fun hp=>Mo.ret _ hn)
  ·exact Mo.false
 ·unfold aF1
  split
  ·unfold convB
   split
   ·rename_i hd _
    exact Mo.cond (Mo.need fun hp=>Mo.ret _ (h1 (.a d _) (.inl hd))) Mo.false
   ·exact Mo.false
  ·exact Mo.cond (Mo.lF fun xs=>Mo.bytes fun ns=>Mo.ret _ hn) Mo.false
  unfold bE4;split
  ·exact Mo.arith fun m=>Mo.ret _ hn
  ·exact Mo.ret _ hn
  ·exact Mo.false
 ·refine Mo.cond ?_ Mo.false
  split
  ·unfold aE9
   split<;>first|exact Mo.ret _ hn|exact Mo.false|(split<;>first|exact Mo.need (fun hp=>Mo.ret _ hn)|exact Mo.false)
  ·unfold aI4
   split<;>first|exact Mo.ret _ hn|exact Mo.false
  ·exact Mo.false
 ·refine Mo.cond ?_ Mo.false
  unfold kT;rename_i s0 x0 t0 t1;split
  ·refine Mo.cond ?_ Mo.false
   refine Mo.contsK fun xs=>?_;split
   ·exact JG
   ·exact JG
   ·rename_i k g hx
    split
    ·refine Mo.need fun hp=>Mo.ret _ (h1 (.a k _) (.inr ⟨A7,fun p q hok=>?_⟩))
     have:=hok s0 AL;exact O9
    ·exact Mo.false
   ·exact Mo.false
  ·exact Mo.false
 ·unfold rP
  split<;>first|exact Mo.ret _ hn|exact Mo.false
 ·unfold rP
  split<;>first|exact Mo.ret _ hn|exact Mo.false
 ·refine Mo.cond ?_ Mo.false
  unfold oN;split
  ·rename_i hd
   exact Mo.cond (Mo.ret _ (h1 (.a d _) (.inl hd))) Mo.false
  ·exact Mo.false
 ·refine Mo.cond ?_ Mo.false
  unfold rG;split
  ·split
   ·split
    ·refine Mo.need fun hp=>Mo.cond ?_ Mo.false
     exact Ou
    ·exact Mo.false
   ·exact Mo.false
  ·split
   ·refine Mo.cond ?_ Mo.false
    exact Ou
   ·exact Mo.false
  ·exact Mo.false
 ·exact Ia
 ·exact Ia
 ·exact Mo.cond (Mo.force fun v=>Mo.ret _ hn) Mo.false
 ·exact Mo.false
theorem bQ1{rs:List V}:∀ {j:Nat} {K:List V->List Mod->Prop},uF σ d rs j none K->∃vs ms,K vs ms/\(∀m∈ms,m.fresh σ)/\∀σ':St,(∀m∈ms,m.same σ σ')->∀K':List V->List Mod->Prop,K' vs ms->uF σ' d rs j none K':=by
 induction rs with
 |nil=>intro j K h;exact⟨[],[],h,Ae,fun σ' _ K' h=>h⟩
 |cons y r ih=>
  intro j K h;rw[qL]at h;split at h
  ·exact H6
  ·exact H6
  ·rename_i hn1 hn2
   rw[force_eq]at h;obtain⟨vs,ms,h1,h2,h3⟩:=ih h;refine⟨_,_,h1,h2,fun σ' hs K' hk=>?_⟩;rw[qL];split
   ·exact(hn1 _ _ rfl).elim
   ·exact(hn2 _ _ rfl).elim
   ·rw[force_eq];exact h3 σ' hs _ hk
theorem bO7{r:V}{K:VK}(h:zZ σ d none r K):∃v ms,K v ms/\(∀m∈ms,m.fresh σ)/\∀σ':St,(∀m∈ms,m.same σ σ')->∀K':VK,K' v ms->zZ σ' d none r K':=by
 unfold zZ at h;split at h
 ·obtain⟨vs,ms,h1,h2,h3⟩:=bQ1 h
  refine⟨_,ms,h1,h2,fun σ' hs K' hk=>?_⟩;unfold zZ;exact h3 σ' hs _ hk
 ·rename_i hnb
  obtain⟨vs,ms,h1,h2,h3⟩:=bQ1 h;refine⟨_,ms,h1,h2,fun σ' hs K' hk=>?_⟩;unfold zZ;split
  ·rename_i q;cases q;exact(hnb _ rfl).elim
  ·rename_i q;cases q;exact h3 σ' hs _ hk
  ·rename_i _ q;exact(q _ rfl).elim
 ·rename_i hnb hnt
  obtain⟨vs,ms,h1,h2,h3⟩:=bQ1 h
  cases vs with
  |nil=>exact h1.elim
  |cons v vr=>
   refine⟨v,ms,h1,h2,fun σ' hs K' hk=>?_⟩;unfold zZ;split
   ·exact(hnb _ rfl).elim
   ·exact(hnt _ rfl).elim
   ·exact h3 σ' hs _ hk
theorem cI2{x y:V}(hx:x.agr σ σ')(h:yH σ.ar x y):yH σ'.ar x y:=by
 unfold yH at*;cases y<;>simp only at h⊢
 case sl l=>
  exact LZ
 all_goals exact h
theorem dS6{ys:List V}:∀ {xs:List V},V.okL (fun i=>σ'.bx i=σ.bx i) (fun k _=>σ'.ar k=σ.ar k) xs->cN9 σ.ar ys xs->cN9 σ'.ar ys xs:=by
 induction ys with
 |nil=>intro xs _ h;exact h
 |cons y r ih=>
  intro xs hx h
  cases xs with
  |nil=>exact h
  |cons x xr=>
   simp only[V.okL]at hx;exact⟨cI2 hx.1 h.1,ih hx.2 h.2⟩
theorem eH3{x y:V}(hx:x.agr σ σ')(h:wU T σ.ar x y):wU T σ'.ar x y:=by
 unfold wU at*;cases y<;>simp only at h⊢
 case own e l=>
  exact LZ
 case ap e l=>
  exact LZ
 case agg ys=>
  cases x<;>simp only at h⊢
  case agg xs=>
   simp only[V.agr,V.ok]at hx;exact dS6 hx h
 all_goals exact cI2 hx h
theorem dL6{ys:List V}:∀ {xs:List V},(∀x∈xs,x.agr σ σ')->iQ T σ.ar ys xs->iQ T σ'.ar ys xs:=by
 induction ys with
 |nil=>intro xs _ h;exact h
 |cons y r ih=>
  intro xs hx h
  cases xs with
  |nil=>exact h
  |cons x xr=>exact⟨eH3 (hx x Ae) h.1,ih (fun z hz=>hx z (by simp[hz])) h.2⟩
theorem yX{hv:List (Nat×List Nat)}(hd:hvOf hv d=none){f:FuncId}{xs:List V}{K:VK}(h:kY T P (.drawn hv) σ d f xs K):∃v ms,K v ms/\(∀m∈ms,m.fresh σ)/\∀σ':St,(∀x∈xs,x.agr σ σ')->(∀m∈ms,m.same σ σ')->∀K':VK,K' v ms->kY T P (.drawn hv) σ' d f xs K':=by
 rcases h.out with⟨ys,r,lend,h1,h2,h3,h4⟩|⟨h0,_⟩|⟨_,_,_,_,_,h0,_⟩|⟨h0,_⟩
 case inr.inl=>cases h0
 case inr.inr.inr=>cases h0
 case inr.inr.inl=>
  unfold Md.may at h0;simp only[hd]at h0;cases h0
 have hc:=h2;simp only[sO,Md.light,Bool.and_eq_true,cond_true,Bool.or_eq_true]at hc;have ho:bD ys xs=[] :=Kw
 have hf:∀σ:St,cond lend [] (aV σ (bK ys xs))=[] :=fun σ=>Ju
 have hk:∀(σ:St) (ms:List Mod),appR (cond lend [] (aV σ (bK ys xs))) (appR (aX σ (bD ys xs)) ms)=ms:=fun σ ms=>by
  rw[hf,ho];rfl
 have hre:∀σ:St,reuse σ (bD ys xs)=none:=fun σ=>by rw[ho];rfl
 simp only[hk,hre]at h4;obtain⟨v,ms,q1,q2,q3⟩:=bO7 h4;refine⟨v,ms,q1,q2,fun σ' hx hm K' hk'=>?_⟩;refine⟨.inl ?_⟩;refine⟨ys,r,lend,dL6 hx h1,h2,h3,?_⟩;simp only[hk,hre];exact q3 σ' hm _ hk'
theorem cJ1{m:Md}{f:FuncId}{xs:List V}{K:VK}(hb:σ'.bx=σ.bx)(ha:σ'.ar=σ.ar)(h:kY T P m σ d f xs K):kY T P m σ' d f xs K:=by
 obtain⟨env,bx,ar⟩:=σ;obtain⟨env',bx',ar'⟩:=σ';simp only at hb ha;subst hb ha;exact⟨h.out⟩
def hvy(hv:List (Nat×List Nat))(d:Nat)(op:Op):Bool:=aG7 op&&isS (hvOf hv d)
theorem aN7{hv:List (Nat×List Nat)}{op:Op}(h:hvy hv d op=false)(hc:aG7 op=true):hvOf hv d=none:=by
 unfold hvy at h;rw[hc,Bool.true_and]at h;unfold isS at h
 cases hh:hvOf hv d with
 |none=>rfl
 |some x=>rw[hh]at h;cases h
theorem aO9{hv:List (Nat×List Nat)}{op:Op}(hh:hvy hv d op=true->σ'.bx=σ.bx/\σ'.ar=σ.ar)(he:∀x∈op.operands,σ'.ev x=σ.ev x)(ha:1<cls op->∀x∈op.operands,(σ.ev x).agr σ σ')(hm:∀m∈ms,m.same σ σ')(h:bW T P (.drawn hv) σ d op (Is v ms)):bW T P (.drawn hv) σ' d op (Is v ms):=by
 unfold bW at h;split at h<;>unfold bW
 ·rename_i f as ts
  have hmap:mapR σ'.ev as=mapR σ.ev as:=yL fun x hx=>he x Ce;rw[bC]at h;simp only;rw[bC,hmap]
  cases hy0:hvy hv d (.call ⟨.value (.func f),⟨as⟩,ts⟩)with
  |true=>exact cJ1 (hh hy0).1 (hh hy0).2 h
  |false=>
  obtain⟨v',ms',⟨rfl,rfl⟩,q2,q3⟩:=yX (aN7 hy0 rfl) h;refine q3 σ' ?_ hm _ ⟨rfl,rfl⟩;intro x hx;rw[dU]at hx;obtain⟨y,hy,rfl⟩:=List.mem_map.1 hx;exact ha A7 y FM
 ·rename_i t as ts
  have hmap:mapR σ'.ev as=mapR σ.ev as:=yL fun x hx=>he x Ce;have het:σ'.env t=σ.env t:=he (.tmp t) AL
  simp only;rw[het];split at h
  ·rename_i g caps hfn
   obtain⟨hfc,h⟩:=aT h;rw[hfc];simp only[cond_true];rw[bC]at h;rw[bC,hmap]
   cases hy0:hvy hv d (.call ⟨.value (.tmp t),⟨as⟩,ts⟩)with
   |true=>exact cJ1 (hh hy0).1 (hh hy0).2 h
   |false=>
   obtain⟨v',ms',⟨rfl,rfl⟩,q2,q3⟩:=yX (aN7 hy0 rfl) h;refine q3 σ' ?_ hm _ ⟨rfl,rfl⟩;intro x hx;rw[dU]at hx;rcases(argsV_mem hx).symm with hx|hx
   ·obtain⟨y,hy,rfl⟩:=List.mem_map.1 hx
    exact ha A7 y FM
   ·have hag:=ha A7 (.tmp t) AL
    have hag':(σ.env t).agr σ σ':=hag;rw[hfn]at hag';simp only[V.agr,V.ok]at hag';exact aH.1 hag' x hx
  ·exact h.elim
 ·rename_i t x lo hi mx
  have h1:opVC T σ d (.slice t (.tmp x) lo hi mx) (Is v ms):=Jv;have h2:=cW0 he ha hm h1
  simp only;exact h2
 ·rename_i bop t x c t'
  have h1:opVC T σ d (.binOp bop t (.tmp x) (.const c) t') (Is v ms):=Jv;have h2:=cW0 he ha hm h1
  simp only;exact h2
 ·rename_i hnc hnc2 hnc3 hnc4
  split
  ·exact(hnc _ _ _ rfl).elim
  ·exact(hnc2 _ _ _ rfl).elim
  ·exact(hnc3 _ _ _ _ _ rfl).elim
  ·exact(hnc4 _ _ _ _ _ rfl).elim
  ·exact cW0 he ha hm h
theorem bQ4{hv:List (Nat×List Nat)}{op:Op}(hh:hvy hv d op=false)(h:bW T P (.drawn hv) σ d op (Is v ms)):∀m∈ms,Fr1 σ op m:=by
 unfold bW at h;split at h
 ·rw[bC]at h
  exact NG
 ·split at h
  ·obtain⟨_,h⟩:=aT h
   rw[bC]at h;exact NG
  ·exact h.elim
 ·rename_i t x lo hi mx
  have h1:opVC T σ d (.slice t (.tmp x) lo hi mx) (Is v ms):=Jv;exact Ot
 ·rename_i bop t x c t'
  have h1:opVC T σ d (.binOp bop t (.tmp x) (.const c) t') (Is v ms):=Jv;exact Ot
 ·obtain⟨v',ms',⟨rfl,rfl⟩,q⟩:=bY1 T σ d _ _ h
  exact q
end
def Eff(T:Tab)(P:Program)(hv:List (Nat×List Nat))(n:Nat)(ops:List Oper)(o:Oper)(σ:St)(v:V)(ms:List Mod):Prop:=
 (∀d,o.dst=some d->d<n)/\match o.guard with
 |none=>bW T P (.drawn hv) σ (o.dst.getD n) o.op (Is v ms)
 |some (j,want)=>∃s,tV ops j=some s/\
  ((σ.env s= .lit (.bool want)/\bW T P (.drawn hv) σ (o.dst.getD n) o.op (Is v ms))\/((σ.env s= .lit (.bool !want)\/∃cs,σ.env s= .tup cs)/\v= .tup []/\ms=[]))
section
variable{T:Tab}{P:Program}{σ σ':St}{n d:Nat}{v:V}{ms:List Mod}{ops:List Oper}{o p:Oper}{K:St->Prop}{hv:List (Nat×List Nat)}
theorem eI5(h:Step T P (.drawn hv) n ops o σ K):∃v ms,Eff T P hv n ops o σ v ms/\K (σ.put o.dst v ms):=by
 unfold Step at h;unfold Eff;split at h
 ·rename_i hg
  simp only[hg];rcases h with⟨h1,h2⟩|⟨h0,_⟩|⟨h0,_⟩
  case inr.inl=>cases h0
  case inr.inr=>cases h0
  obtain⟨v,ms,q1,q2⟩:=cH1 _ _ _ _ _ _ _ h2;exact⟨v,ms,⟨h1,q2 _ ⟨rfl,rfl⟩⟩,q1⟩
 ·rename_i j want hg
  simp only[hg];obtain⟨s,h1,h2,h3⟩:=h;rcases h3 with⟨b,hb,h4⟩|⟨cs,hb,h4⟩
  ·split at h4
   ·rename_i hbw
    subst hbw;obtain⟨v,ms,q1,q2⟩:=cH1 _ _ _ _ _ _ _ h4;exact⟨v,ms,⟨h2,s,h1, .inl ⟨hb,q2 _ ⟨rfl,rfl⟩⟩⟩,q1⟩
   ·rename_i hbw
    refine⟨_,_,⟨h2,s,h1, .inr ⟨.inl ?_,rfl,rfl⟩⟩,h4⟩;rw[hb];cases b<;>cases want<;>simp_all
  ·exact⟨_,_,⟨h2,s,h1, .inr ⟨.inr ⟨cs,hb⟩,rfl,rfl⟩⟩,h4⟩
theorem eE8(h:Eff T P hv n ops o σ v ms)(hk:K (σ.put o.dst v ms)):Step T P (.drawn hv) n ops o σ K:=by
 unfold Eff at h;unfold Step;obtain⟨h1,h2⟩:=h;split at h2
 ·rename_i hg
  simp only[hg];exact .inl ⟨h1,aR8 (fun v' ms' ⟨e1,e2⟩=>by rw[e1,e2];exact hk) h2⟩
 ·rename_i j want hg
  simp only[hg];obtain⟨s,q1,q2⟩:=h2;refine⟨s,q1,h1,?_⟩;rcases q2 with⟨q2,q3⟩|⟨q2,rfl,rfl⟩
  ·refine .inl ⟨want,q2,?_⟩
   rw[if_pos rfl];exact aR8 (fun v' ms' ⟨e1,e2⟩=>by rw[e1,e2];exact hk) q3
  ·rcases q2 with q2|q2
   ·refine .inl ⟨!want,q2,?_⟩
    rw[if_neg (by cases want<;>simp)]
    exact hk
   ·exact .inr ⟨q2.choose,q2.choose_spec,hk⟩
theorem aP3(h:hvO hv o=false):hvy hv (o.dst.getD n) o.op=false:=by
 unfold hvO at h;unfold hvy
 cases hc:aG7 o.op with
 |false=>rfl
 |true=>
  rw[hc,Bool.true_and]at h
  cases hd:o.dst with
  |some d=>rw[hd]at h;simpa using h
  |none=>
   rw[hd]at h
   cases hv with
   |nil=>rfl
   |cons p r=>simp at h
theorem cO7(hh:hvO hv o=false)(h:Eff T P hv n ops o σ v ms):∀m∈ms,Fr1 σ o.op m:=by
 unfold Eff at h;obtain⟨h1,h2⟩:=h;split at h2
 ·exact bQ4 (aP3 hh) h2
 ·obtain⟨s,q1,q2⟩:=h2
  rcases q2 with⟨q2,q3⟩|⟨q2,rfl,rfl⟩
  ·exact bQ4 (aP3 hh) q3
  ·intro m hm;cases hm
theorem mW(hh:hvO hv o=true->σ'.bx=σ.bx/\σ'.ar=σ.ar)(he:∀t∈o.looksAt ops.toArray,σ'.env t=σ.env t)(ha:1<cls o.op->∀x∈o.op.operands,(σ.ev x).agr σ σ')(hm:∀m∈ms,m.same σ σ')(h:Eff T P hv n ops o σ v ms):Eff T P hv n ops o σ' v ms:=by
 have hev:∀x∈o.op.operands,σ'.ev x=σ.ev x:=by
  intro x hx;exact Og
 have hh':hvy hv (o.dst.getD n) o.op=true->σ'.bx=σ.bx/\σ'.ar=σ.ar:=fun hy=>hh (by
  cases hq:hvO hv o with
  |true=>rfl
  |false=>rw[aP3 (n:=n) hq]at hy;cases hy)
 unfold Eff at*;obtain⟨h1,h2⟩:=h;refine⟨h1,?_⟩;split at h2
 ·rename_i hg
  exact aO9 hh' hev ha hm h2
 ·rename_i j want hg
  obtain⟨s,q1,q2⟩:=h2;have hs:σ'.env s=σ.env s:=I9;refine⟨s,q1,?_⟩;rw[hs];rcases q2 with⟨q2,q3⟩|q2
  ·exact .inl ⟨q2,aO9 hh' hev ha hm q3⟩
  ·exact .inr q2
theorem lT(σ:St)(d:Option Nat)(v:V)(ms:List Mod):(σ.put d v ms).bx=(σ.apps ms).bx:=by cases d<;>rfl
theorem nX(σ:St)(d:Option Nat)(v:V)(ms:List Mod):(σ.put d v ms).ar=(σ.apps ms).ar:=by cases d<;>rfl
theorem bU(σ:St)(d:Option Nat)(v:V)(ms:List Mod){t:Nat}(h:d≠some t):(σ.put d v ms).env t=σ.env t:=by
 cases d with
 |none=>show(σ.apps ms).env t=_;rw[vM]
 |some d=>show upd (σ.apps ms).env d v t=_;rw[upd_ne _ _ (fun e=>h (by rw[e])),vM]
theorem pI(σ:St)(d:Nat)(v:V)(ms:List Mod):(σ.put (some d) v ms).env d=v:=upd_same _ _ _
theorem put_comm{d d':Option Nat}{v v':V}{ms ms':List Mod}(hd:∀t,d=some t->d'≠some t)(hB:∀i,(∃m∈ms,m.isB i)->∀m∈ms',¬m.isB i)(hA:∀i,(∃m∈ms,m.isA i)->∀m∈ms',¬m.isA i):
 (σ.put d v ms).put d' v' ms'=(σ.put d' v' ms').put d v ms:=by
 have h1:((σ.put d v ms).put d' v' ms').env=((σ.put d' v' ms').put d v ms).env:=by
  funext t;by_cases e:d=some t
  ·subst e
   rw[bU _ _ _ _ (hd t rfl),pI,pI]
  ·rw[bU _ d _ _ e]
   by_cases e':d'=some t
   ·subst e';rw[pI,pI]
   ·rw[bU _ _ _ _ e',bU _ _ _ _ e,bU _ _ _ _ e']
 have h2:((σ.put d v ms).put d' v' ms').bx=((σ.put d' v' ms').put d v ms).bx:=by
  funext i;rw[lT,lT];by_cases e:∃m∈ms,m.isB i
  ·rw[jJ ms' i _ (hB i e),lT]
   exact aI2 ms i _ _ (.inl e)
  ·have e':∀m∈ms,¬m.isB i:=fun m hm hb=>e ⟨m,hm,hb⟩
   rw[jJ ms i _ e',lT];exact aI2 ms' i _ _ (.inr (by rw[lT,jJ ms i _ e']))
 have h3:((σ.put d v ms).put d' v' ms').ar=((σ.put d' v' ms').put d v ms).ar:=by
  funext i;rw[nX,nX];by_cases e:∃m∈ms,m.isA i
  ·rw[lW ms' i _ (hA i e),nX]
   exact aI9 ms i _ _ (.inl e)
  ·have e':∀m∈ms,¬m.isA i:=fun m hm hb=>e ⟨m,hm,hb⟩
   rw[lW ms i _ e',nX];exact aI9 ms' i _ _ (.inr (by rw[nX,lW ms i _ e']))
 generalize (σ.put d v ms).put d' v' ms'=s1 at*;generalize (σ.put d' v' ms').put d v ms=s2 at*;exact Oz
end
section
variable{T:Tab}{P:Program}{σ σ':St}{n d:Nat}{v v':V}{ms ms':List Mod}{ops:List Oper}{o p:Oper}{K:St->Prop}{hv:List (Nat×List Nat)}
theorem bA1{a b:Nat}(h:clash a b=false)(ha:4<=a)(hb:1<b):False:=by
 unfold clash at h;simp only[Bool.or_eq_false_iff,Bool.and_eq_false_iff]at h;rcases h.1.1.1 with h|h
 ·rw[Nat.ble_eq_true_of_le ha]at h;cases h
 ·rw[Nat.ble_eq_true_of_le hb]at h;cases h
theorem dE0{a b:Nat}(h:clash a b=false)(ha:4<=b)(hb:1<a):False:=by
 unfold clash at h;simp only[Bool.or_eq_false_iff,Bool.and_eq_false_iff]at h;rcases h.1.1.2 with h|h
 ·rw[Nat.ble_eq_true_of_le ha]at h;cases h
 ·rw[Nat.ble_eq_true_of_le hb]at h;cases h
theorem swap(wf:∀x:Operand,(σ.ev x).ok σ.hasB σ.hasA)(hpo:Oper.apart ops.toArray p o=true)(hcl:clash (clsH hv p) (clsH hv o)=false)
 (h1:Eff T P hv n ops p σ v ms)(h2:Eff T P hv n ops o (σ.put p.dst v ms) v' ms'):
 Eff T P hv n ops o σ v' ms'/\Eff T P hv n ops p (σ.put o.dst v' ms') v ms/\(σ.put p.dst v ms).put o.dst v' ms'=(σ.put o.dst v' ms').put p.dst v ms:=by
 obtain⟨hp1,hp2,hp3⟩:=Oper.apart_spec hpo
 have hnp:hvO hv p=false:=by
  cases hq:hvO hv p with
  |false=>rfl
  |true=>
   unfold clsH at hcl;rw[hq]at hcl;simp[clash]at hcl
 have hno:hvO hv o=false:=by
  cases hq:hvO hv o with
  |false=>rfl
  |true=>
   unfold clsH at hcl;rw[hq]at hcl;simp[clash]at hcl
 replace hcl:clash (cls p.op) (cls o.op)=false:=by
  unfold clsH at hcl;rw[hnp,hno]at hcl;exact hcl
 have hm1:=cO7 hnp h1;have hm2:=cO7 hno h2
 generalize hσ1:σ.put p.dst v ms=σ1 at*
 have ev1:∀x∈o.op.operands,σ1.ev x=σ.ev x:=by
  intro x hx
  cases x with
  |tmp t=>
   show σ1.env t=σ.env t;rw[<-hσ1];refine bU _ _ _ _ (fun e=>hp1 t e ?_);exact Nq
  |const v=>rfl
  |global g=>rfl
  |func f=>rfl
 have hpm:∀m∈ms,m.fresh σ\/(4<=cls p.op/\m.key σ.hasB σ.hasA):=fun m hm=>by
  rcases hm1 m hm with h|⟨h,h'⟩
  ·exact .inl h
  ·exact .inr ⟨h,h' _ _ fun x _=>wf x⟩
 have hom:∀m∈ms',m.fresh σ1\/(4<=cls o.op/\m.key σ.hasB σ.hasA):=fun m hm=>by
  rcases hm2 m hm with h|⟨h,h'⟩
  ·exact .inl h
  ·exact .inr ⟨h,h' _ _ fun x hx=>by rw[ev1 x hx];exact wf x⟩
 have b1:σ1.bx=(σ.apps ms).bx:=by rw[<-hσ1,lT]
 have a1:σ1.ar=(σ.apps ms).ar:=by rw[<-hσ1,nX]
 have hasB1:∀i,σ.hasB i->σ1.bx i≠none:=fun i ⟨cs,hi⟩=>by rw[b1];exact aN6 _ _ _ (.inr (by rw[hi];simp))
 have hasA1:∀k g,σ.hasA k g->σ1.ar k≠none:=fun i g ⟨cs,hi,_⟩=>by rw[a1];exact aO2 _ _ _ (.inr (by rw[hi];simp))
 have disB:∀i,(∃m∈ms,m.isB i)->∀m∈ms',¬m.isB i:=by
  rintro i ⟨m,hm,hb⟩ m' hm' hb'
  cases m with
  |a=>exact hb
  |b j cs=>
  cases m' with
  |a=>exact hb'
  |b j' cs'=>
  cases hb;cases hb';rcases hom _ hm' with h|⟨h,hk⟩
  ·exact absurd h (by show σ1.bx i≠none;rw[b1];exact aN6 _ _ _ (.inl ⟨_,hm,rfl⟩))
  ·rcases hpm _ hm with h'|⟨h',_⟩
   ·obtain⟨x,hx⟩:=hk
    have h'':σ.bx i=none:=h';rw[h'']at hx;cases hx
   ·exact bA1 hcl h' Aa
 have disA:∀i,(∃m∈ms,m.isA i)->∀m∈ms',¬m.isA i:=by
  rintro i ⟨m,hm,hb⟩ m' hm' hb'
  cases m with
  |b=>exact hb
  |a j cs=>
  cases m' with
  |b=>exact hb'
  |a j' cs'=>
  cases hb;cases hb';rcases hom _ hm' with h|⟨h,hk⟩
  ·exact absurd h (by show σ1.ar i≠none;rw[a1];exact aO2 _ _ _ (.inl ⟨_,hm,rfl⟩))
  ·rcases hpm _ hm with h'|⟨h',_⟩
   ·obtain⟨g,x,hx,_⟩:=hk
    have h'':σ.ar i=none:=h';rw[h'']at hx;cases hx
   ·exact bA1 hcl h' Aa
 refine⟨?_,?_,?_⟩
 ·refine mW (σ:=σ1) (fun hq=>CP) ?_ ?_ ?_ h2
  ·intro t ht
   rw[<-hσ1];exact(bU _ _ _ _ (fun e=>hp1 t e ht)).symm
  ·intro hc x hx
   rw[ev1 x hx];refine V.ok.imp ?_ ?_ _ (wf x)
   ·intro i hi
    rw[b1];refine(jJ _ _ _ ?_).symm;intro m hm hb
    cases m with
    |a=>exact hb
    |b j cs=>
    cases hb;rcases hpm _ hm with h'|⟨h',_⟩
    ·obtain⟨y,hy⟩:=hi
     have h'':σ.bx i=none:=h';rw[h'']at hy;cases hy
    ·exact bA1 hcl h' hc
   ·intro i g hi
    rw[a1];refine(lW _ _ _ ?_).symm;intro m hm hb
    cases m with
    |b=>exact hb
    |a j cs=>
    cases hb;rcases hpm _ hm with h'|⟨h',_⟩
    ·obtain⟨y,hy,_⟩:=hi
     have h'':σ.ar i=none:=h';rw[h'']at hy;cases hy
    ·exact bA1 hcl h' hc
  ·intro m hm
   cases m with
   |b i cs=>
    show σ.bx i=σ1.bx i;rw[b1];exact(jJ _ _ _ (fun m' hm' hb=>disB i ⟨m',hm',hb⟩ _ hm rfl)).symm
   |a i cs=>
    show σ.ar i=σ1.ar i;rw[a1];exact(lW _ _ _ (fun m' hm' hb=>disA i ⟨m',hm',hb⟩ _ hm rfl)).symm
 ·refine mW (σ:=σ) (fun hq=>CQ) ?_ ?_ ?_ h1
  ·intro t ht
   exact bU _ _ _ _ (fun e=>hp3 t e ht)
  ·intro hc x hx
   refine V.ok.imp ?_ ?_ _ (wf x)
   ·intro i hi
    rw[lT];refine jJ _ _ _ ?_;intro m hm hb
    cases m with
    |a=>exact hb
    |b j cs=>
    cases hb;rcases hom _ hm with h'|⟨h',_⟩
    ·exact hasB1 i hi h'
    ·exact dE0 hcl h' hc
   ·intro i g hi
    rw[nX];refine lW _ _ _ ?_;intro m hm hb
    cases m with
    |b=>exact hb
    |a j cs=>
    cases hb;rcases hom _ hm with h'|⟨h',_⟩
    ·exact hasA1 i g hi h'
    ·exact dE0 hcl h' hc
  ·intro m hm
   cases m with
   |b i cs=>
    show(σ.put o.dst v' ms').bx i=σ.bx i;rw[lT];exact jJ _ _ _ (disB i ⟨_,hm,rfl⟩)
   |a i cs=>
    show(σ.put o.dst v' ms').ar i=σ.ar i;rw[nX];exact lW _ _ _ (disA i ⟨_,hm,rfl⟩)
 ·rw[<-hσ1]
  exact put_comm (fun t e=>hp2 t e) disB disA
end
end Go.Ab
