/-
  Iterators, carried out: how many items have been taken stands beside the state.
-/
import Derived.Test.YtdjgbagnajikeaaGreatDoorA11
import Derived.Deep.Slices
import Derived.ChangeSame
import Derived.Carry
import Derived.OpenShut
import Derived.ProofKit
set_option linter.unusedVariables false
set_option linter.unusedSimpArgs false
noncomputable section
namespace Go.Ab
section
abbrev ItQ:=Exit->Option Nat->St->Prop
abbrev ItC:=Option Nat->St->ItQ->Prop
def yieldOf(env:Nat->V)(o:Oper):Option (Nat×List Operand):=
 match o.op with
 | .call ⟨.value (.tmp t),⟨as⟩,_⟩=>match env t with| .lit (.func (.yield l) ⟨[]⟩ ⟨[]⟩)=>some (l,as)|_=>none
 |_=>none
structure dC9(items:List (List V))(l l':Nat)(k:Nat)(xs:List V)(A B:Prop):Prop where
 out:l'=l/\items[k]? =some xs/\bM xs/\A/\B
abbrev ItO:=Option Nat->(Nat->V)->(Nat->Option (List V))->(Nat->Option AE)->(Option Nat->St->Prop)->Prop
def cV6(T:Tab)(P:Program)(n:Nat)(items:List (List V))(yl:Nat)(ops:List Oper)(o:Oper)(ih:ItO):ItO:=λk env bx ar K=>
 match yieldOf env o with
 |some (yl',as)=>match o.guard,k,o.dst with
  |none,some k,some d=>cond (Nat.blt d n) (dC9 items yl yl' k (mapR (St.ev ⟨env,bx,ar⟩) as) (ih (some (k+1)) (upd env d (B true)) bx ar K) (ih none (upd env d (B false)) bx ar K)) False
  |_,_,_=>False
 |none=>bH0 T P .free n ops o (λenv bx ar _=>ih k env bx ar K) env bx ar (λ_=>True)
def cE1(T:Tab)(P:Program)(n:Nat)(items:List (List V))(yl:Nat)(ops l:List Oper):ItO:=
 List.rec (motive:=λ_=>ItO) (λk env bx ar K=>K k ⟨env,bx,ar⟩) (λo _ ih=>cV6 T P n items yl ops o ih) l
structure eF8(x y:ItC)(k:Option Nat)(σ:St)(Q:ItQ):Prop where
 out:x k σ λe k' σ'=>match e with
  | .normal=>y k' σ' Q
  |e=>Q e k' σ'
structure bX4(T:Tab)(x:ItC)(k:Option Nat)(σ:St)(Q:ItQ):Prop where
 out:∃(A:Type) (st:A->St) (kk:A->Option Nat) (inv:A->Prop) (m:A->Nat),(∃p,Le T σ (st p)/\inv p/\kk p=k)/\∀p,inv p->x (kk p) (st p) λe k' σ'=>match e with
  | .normal=>∃p',Le T σ' (st p')/\inv p'/\kk p'=k'/\m p'<m p
  |e=>Q e k' σ'
def aI3(T:Tab)(P:Program)(n:Nat)(items:List (List V))(yl:Nat)(c:Code):ItC:=
 Code.rec (motive:=λ_=>ItC)
  (λk σ Q=>Q .normal k σ)
  (λ_ ops draw k σ Q=>match σ with|⟨env,bx,ar⟩=>match draw with
   |true=>aC9 T env ops.toList (λhv=>aY0 T P (.drawn hv) n ops.toList ops.toList env bx ar (Q .normal k))
   |false=>cE1 T P n items yl ops.toList ops.toList k env bx ar (Q .normal))
  (λ_ _ iha ihb=>eF8 iha ihb)
  (λc _ _ iht ihe k σ Q=>match σ.ev c with
   | .lit (.bool b)=>branch b (iht k σ Q) (ihe k σ Q)
   |_=>False)
  (λid _ ih k σ Q=>ih k σ λe k' σ'=>match e with
   | .exit i=>cond (Nat.beq i id) (Q .normal k' σ') (Q (.exit i) k' σ')
   |e=>Q e k' σ')
  (λ_ ih=>bX4 T ih)
  (λ_ _ _ _ _ _ _ _ _=>False)
  (λid k σ Q=>Q (.exit id) k σ)
  (λ_ ih k σ Q=>ih k σ λe k' σ'=>match e with
   | .goto _=>False
   |e=>Q e k' σ')
  (λ_ k σ Q=>Q .normal k σ)
  (λ_ _ _ _=>False)
  (λk σ Q=>Q .ret k σ)
  (λ_ _ _ _=>False) c
def dZ2(n:Nat)(k:Option Nat):Prop:=match k with|some k=>k=n|none=>True
def itVC(T:Tab)(P:Program)(fn:Func)(caps:List V)(items:List (List V)):Prop:=
 match fn.body,fn.results.toList with
 |some c,[] =>∀l:Nat,aI3 T P fn.ntmps items l c (some 0) (uD (.lit (.func (.yield l) ⟨[]⟩ ⟨[]⟩)::caps)) λe k _=>match e with
  | .normal=>dZ2 items.length k
  | .ret=>dZ2 items.length k
  |_=>False
 |_,_=>False
variable{T:Tab}{P:Program}{Φ:Fr}{σ:St}{a:Act}{w w':World}{G G':Gh}{o:Oper}
theorem Inv.move(inv:Inv T Φ σ a w G)(g:w.heap.size<=w'.heap.size)(d:∀b,G.O b≠ .ext->w'.heap[b]? =w.heap[b]?)(m:w'.os=w.os)(r:w'.tape=w.tape)(q:w'.output=w.output):Inv T (Φ.at w' G) σ a w' G:=by
 have c:Inv T {(Φ.at w G)with given:=λb=>G.O b≠ .fz} σ a w G:=by
  have i:=inv.up;refine {nd:=i.nd,kp:=i.kp,sz:=i.sz,env:=i.env,wfE:=i.wfE,box:=i.box,wfB:=i.wfB,arr:=i.arr,wfA:=i.wfA,tag:=i.tag,mineB:=λb j h=> .inr (by show G.O b≠ .fz;rw[h];simp),mineA:=λb k h=> .inr (by show G.O b≠ .fz;rw[h];simp),fzm:=λb h=> .inl h,F0:=i.F0,frame:=λb _ _=>rfl,size:=i.size,os:=i.os,tape:=i.tape,output:=i.output,args:=i.args,lay:=⟨i.lay.1,λb d=>⟨(i.lay.2 b d).1,λh=>h d⟩⟩,argb:=i.argb}
 have f:=c.change (w':=w') (G':=G) rfl ⟨λ_ h=>h,λb h=>d b GN⟩ (λ_ _=>rfl) (λ_ _ _=>rfl) (λ_ h=>h) (λ_ _ h=>h)
  (λi cs hi=> .inl ⟨hi,(c.box i cs hi).choose_spec.choose_spec.2.2,d _ (by rw[(c.box i cs hi).choose_spec.choose_spec.2.2];simp)⟩)
  (λk en l=> .inl ⟨l,λb e=>⟨e,d b (by rw[e];simp)⟩⟩)
  (λb h=>RX (c.tag b h) g) (λ_=> .inl rfl)
  (λb=>by
   by_cases h:G.O b= .fz
   ·exact .inl (d b GN)
   ·exact .inr (.inr h)) g m r q
 exact f.up
structure pU(T:Tab)(n:Nat)(w:World)(JX:Option Nat->World->Gh->Prop)(k:Option Nat)(σ:St)(a:Act)(W:World)(Φ:Fr)(G' Gi:Gh):Prop where
 nn:Φ.n=n
 ds:Φ.ds=[]
 kp:Φ.keep=λ_=>none
 jx:JX k Φ.w0 G'
 tag:∀b,G'.O b≠ .ext->b<Φ.w0.heap.size
 F0:∀b,Φ.F0 b->G'.O b= .fz\/(w.heap.size<=b/\G'.O b= .ext)
 given:∀b,Φ.given b->w.heap.size<=b/\G'.O b= .ext
 size:w.heap.size<=Φ.w0.heap.size
 inv:Inv T Φ σ a W Gi
section
variable{n:Nat}{JX:Option Nat->World->Gh->Prop}{k:Option Nat}{Gi:Gh}{w0 W:World}
theorem pU.own(h:pU T n w0 JX k σ a W Φ G' Gi){b:Nat}(m:Gi.O b≠ .ext):(Gi.O b= .fz/\G'.O b= .fz)\/(w0.heap.size<=b/\b<W.heap.size/\G'.O b= .ext):=by
 have c:Φ.mine b->w0.heap.size<=b/\G'.O b= .ext:=λc=>by
  rcases c with c|c
  ·refine⟨QV h.size c,?_⟩
   cases d:G'.O b with
   |ext=>rfl
   |_=>have:=h.tag b (by rw[d];simp);omega
  ·exact h.given b c
 have e:=h.inv.tag b m
 cases d:Gi.O b with
 |ext=>exact absurd d m
 |bx i=>
  obtain⟨j,g⟩:=c (h.inv.mineB b i d);simp_all
 |ar i=>
  obtain⟨j,g⟩:=c (h.inv.mineA b i d);simp_all
 |fz=>
  rcases h.inv.fzm b d with l|l
  ·rcases h.F0 b l with f|f
   ·exact .inl ⟨rfl,f⟩
   ·exact .inr ⟨f.1,e,f.2⟩
  ·obtain⟨j,g⟩:=c l
   exact .inr ⟨j,e,g⟩
def Jcl(w:World)(JX:Option Nat->World->Gh->Prop):Prop:=∀k W W' G',JX k W G'->W.heap.size<=W'.heap.size->(∀b,b<W.heap.size->(G'.O b≠ .ext\/b<w.heap.size)->W'.heap[b]? =W.heap[b]?)->W'.os=W.os->W'.tape=W.tape->W'.output=W.output->JX k W' G'
def Jfz(w:World)(JX:Option Nat->World->Gh->Prop):Prop:=∀k W G' G'',JX (some k) W G'->G''.β=G'.β->G''.av=G'.av->(∀b,G''.O b=G'.O b\/(w.heap.size<=b/\b<W.heap.size/\G'.O b= .ext/\G''.O b= .fz))->JX (some k) W G''
def dA0(P:Program)(w:World)(items:List (List V))(l:Nat)(JX:Option Nat->World->Gh->Prop):Prop:=∀k W G' vs it,JX (some k) W G'->items[k]? =some it->vs.size=it.length->(∀(j:Nat) v y,vs[j]? =some v->it[j]? =some y->y.pure/\Rv W G' v y)->
 YieldAt (FW none) 0 P l vs W λe W'=>(e= .returned (.bool true)/\∃G2,JX (some (k+1)) W' G2/\xN w W W' G' G2)\/(e= .returned (.bool false)/\∃G2,JX none W' G2/\xN w W W' G' G2)
theorem pU.now(h:pU T n w0 JX k σ a W Φ G' Gi)(d:Jcl w0 JX):JX k W G':=
 d k _ _ _ h.jx h.inv.size (λb f c=>h.inv.frame b f (λe=>by
  obtain⟨i,g⟩:=h.given b e;rcases c with c|c
  ·exact c g
  ·omega)) h.inv.os h.inv.tape h.inv.output
theorem pU.next(h:pU T n w0 JX k σ a W Φ G' Gi){b:St}{c:Act}{d:World}{Gi':Gh}(inv:Inv T Φ b c d Gi'):pU T n w0 JX k b c d Φ G' Gi':={h with inv:=inv}
theorem cS1{t l:Nat}{e:List Operand}{g:Array TypeId}{d:FuncId}{tmps:Array Value}{b body:Code}(h:o.op= .call ⟨.value (.tmp t),⟨e⟩,g⟩)(i:a.tmps.getD t undef= .func (.yield l) #[] #[])
 (f:(Instr.yield l (e.map a.eval).toArray).run P w= .ok (.round l d tmps b body) w):(execOp a.eval o).run P w= .ok (.round l d tmps b body) w:=by
 have c:a.eval (.tmp t)= .func (.yield l) #[] #[] :=i;simp[execOp,h,resolve,c,Deferred.ofValue,invoke,f]
theorem eH0(hJ:Jcl w0 JX)(hF:Jfz w0 JX){r:List (List V)}{l:Nat}(hY:dA0 P w0 r l JX){E d t:Nat}{u:List Operand}{ts:Array TypeId}(Z:o.op= .call ⟨.value (.tmp t),⟨u⟩,ts⟩)(hd:o.dst=some d)(N:d<n)(hg:σ.env t= .lit (.func (.yield l) ⟨[]⟩ ⟨[]⟩))
 (h:pU T n w0 JX (some E) σ a W Φ G' Gi)(X:r[E]? =some (u.map σ.ev))(hp:bM (u.map σ.ev)){next:Act->World->Prop}{Q:Exit->Act->World->Prop}
 (hn:∀(b:Bool) Y m Φ' g,pU T n w0 JX (match b with|true=>some (E+1)|false=>none) (σ.set d (B b)) Y m Φ' g Gi->next Y m):o.wpIn (FW none) 0 P a W next Q:=by
 have S:a.tmps.getD t undef= .func (.yield l) #[] #[] :=by
  have:=h.inv.env t;rw[hg]at this;exact this.bH
 let g:Gh:={G' with O:=λb=>match G'.O b,Gi.O b with| .ext, .fz=> .fz|x,_=>x}
 have R:∀b,g.O b=G'.O b\/(w0.heap.size<=b/\b<W.heap.size/\G'.O b= .ext/\g.O b= .fz):=λb=>by
  cases M:G'.O b with
  |ext=>
   cases f:Gi.O b with
   |fz=>
    rcases h.own (b:=b) (by rw[f];simp)with q|q
    ·rw[q.2]at M;cases M
    ·grind
   |_=>exact .inl (by simp[g,M,f])
  |_=>exact .inl (by simp[g,M])
 have D:∀b,Gi.O b= .fz->g.O b= .fz:=λb hb=>by
  rcases h.own (b:=b) AP with q|q
  ·simp[g,q.2]
  ·simp[g,q.2.2,hb]
 have hj:=hF E W G' g (h.now hJ) rfl rfl R
 obtain⟨fn,tmps,aa,body,F,hR⟩:=hY E W g (u.map a.eval).toArray _ hj X Ae (λj v y hv F=>by
  have L:j<u.length:=by
   have:=(QD.1 F).1;simpa using this
  have e1:v=a.eval u[j] :=by simpa [L]using hv.symm
  have e2:y=σ.ev u[j] :=by simpa [L]using F.symm
  have C:y.pure:=aH.1 hp y (QF F);refine⟨C,?_⟩;rw[e1];rw[e2]at C⊢;exact(h.inv.ev u[j]).1.aW ⟨D,λ_ _=>rfl⟩ C)
 refine⟨λ_ _=>trivial,?_⟩;rw[Oper.semAt_eq _ _ _ (λc=>by rw[Z];exact λh=>by cases h),cS1 Z S F,Oper.uponIn_round]
 refine⟨λhh=>EP,hR.mono ?_⟩
 have K:∀(b:Bool) (m:World) (s:Gh),JX (match b with|true=>some (E+1)|false=>none) m s->xN w0 W m g s->next (a.put o.dst (.bool b)) m:=by
  intro b m s J i
  have z:∀b,Gi.O b≠ .ext->m.heap[b]? =W.heap[b]? :=λb hb=>by
   by_cases A:Gi.O b= .fz
   ·exact i.keep.heap b (D b A)
   ·rcases h.own hb with q|q
    ·exact absurd q.1 A
    ·refine(i.own b q.1 q.2.1 ?_).1
     cases f:Gi.O b with
     |fz=>exact absurd f A
     |_=>simp[g,q.2.2,f]
  have H:=h.inv.move i.size z i.os i.tape i.output;have I:=H.bA3 (d:=d) (v':= .bool b) (v:=B b) ⟨by show d<Φ.n;rw[h.nn];exact N,by show Φ.keep d=none;rw[h.kp]⟩ (.lit _ rfl) (by simp only[B,V.ok])
  rw[hd];refine hn b _ m (Φ.at m Gi) s ⟨h.nn,h.ds,h.kp,J,i.tag,λb hb=>?_,λb hb=>?_,QV h.size (QV h.inv.size i.size),I⟩
  ·exact .inl (i.keep.fz b (D b hb))
  ·rcases h.own hb.2 with q|q
   ·exact absurd q.1 hb.1
   ·refine⟨q.1,(i.own b q.1 q.2.1 ?_).2⟩
    have U:Gi.O b≠ .fz:=hb.1
    cases f:Gi.O b with
    |fz=>exact absurd f U
    |_=>simp[g,q.2.2,f]
 rintro e m (⟨rfl,s,J,i⟩|⟨rfl,s,J,i⟩)
 ·exact K true m s J i
 ·exact K false m s J i
def eE2(T:Tab)(n:Nat)(w0:World)(JX:Option Nat->World->Gh->Prop)(Q:ItQ)(e:Exit)(a:Act)(w:World):Prop:=∃k σ Φ G' Gi,Q e k σ/\pU T n w0 JX k σ a w Φ G' Gi
theorem eS2(X:bP T P)(M:Jcl w0 JX)(Z:Jfz w0 JX){c:List (List V)}{l:Nat}(Y:dA0 P w0 c l JX){ops:List Oper}{i:Array Oper}(R:i.toList=ops){K:Option Nat->St->Prop}{Q:Exit->Act->World->Prop}(N:∀k e m w' Φ G' Gi,K k e->pU T n w0 JX k e m w' Φ G' Gi->Q .normal m w'):
 ∀(r:List Oper) (k:Option Nat) (σ:St) (a:Act) (W:World) (Φ:Fr) (G' Gi:Gh),pU T n w0 JX k σ a W Φ G' Gi->cE1 T P n c l ops r k σ.env σ.bx σ.ar K->wpListIn (FW none) 0 P i Q r a W:=by
 intro r
 induction r with
 |nil=>intro k σ a W Φ G' Gi h j;exact N k σ a W Φ G' Gi j h
 |cons o r x=>
  intro k σ a W Φ G' Gi h j;have f:cV6 T P n c l ops o (cE1 T P n c l ops r) k σ.env σ.bx σ.ar K:=j;unfold cV6 at f;split at f
  ·rename_i O as q
   split at f
   ·rename_i kk d hg S
    obtain⟨y,C⟩:=aT f;obtain⟨U,H,E,J,q4⟩:=C.out;subst U;rw[dU]at H E;unfold yieldOf at q;split at q
    ·rename_i t L ts ho
     split at q
     ·rename_i hv
      cases q;unfold wpListIn;rw[Q9 CW];refine eH0 M Z Y ho S (blt y) hv h H E ?_;intro b m F u s I
      cases b with
      |true=>exact x _ (σ.set d (B true)) m F u s Gi I J
      |false=>exact x _ (σ.set d (B false)) m F u s Gi I q4
     ·cases q
    ·cases q
   ·exact f.elim
  ·have A:=aX6 (σ:=σ) f
   have z:∀d,o.dst=some d->Φ.keep d=none:=λd _=>by rw[h.kp]
   have v:Step T P .free Φ.n ops o σ λe=>cE1 T P n c l ops r k e.env e.bx e.ar K:=by rw[h.nn];exact A
   have:=bZ3 X h.inv R z v (Q:=Q) none;unfold wpListIn;split
   ·rename_i D
    rw[Q9 D]at this;exact Oper.wpIn_mono (λm w' ⟨e,s,j,g⟩=>x k e m w' Φ G' s (h.next g) j) this
   ·rename_i D
    rw[Q5 D]at this;obtain⟨s,e,j,g⟩:=this;exact⟨λ_ _=>trivial,x k e _ W Φ G' s (h.next g) j⟩
theorem eQ3(hT:bP T P)(hm:P.follows .mixedOrders=true)(hJ:Jcl w0 JX)(hF:Jfz w0 JX){g:List (List V)}{l:Nat}(hY:dA0 P w0 g l JX)(c:Code):∀(k:Option Nat) (σ:St) (a:Act) (W:World) (Φ:Fr) (G' Gi:Gh) (Q:ItQ),pU T n w0 JX k σ a W Φ G' Gi->aI3 T P n g l c k σ Q->c.wpIn (FW none) 0 P (eE2 T n w0 JX Q) a W:=by
 induction c with
 |skip=>intro k σ a W Φ G' Gi Q h r;exact wpIn_skip ⟨k,σ,Φ,G',Gi,r,h⟩
 |region id ops U=>
  intro k σ a W Φ G' Gi Q h r
  cases U with
  |false=>
   have z:cE1 T P n g l ops.toList ops.toList k σ.env σ.bx σ.ar (Q .normal):=by cases σ;exact r
   exact wpIn_region_list (eS2 hT hJ hF hY rfl (λk j K w' Φ G' Gi hk hi=>⟨k,j,Φ,G',Gi,hk,hi⟩) ops.toList k σ a W Φ G' Gi h z)
  |true=>
   have z:aC9 T σ.env ops.toList (λhv=>aY0 T P (.drawn hv) n ops.toList ops.toList σ.env σ.bx σ.ar (Q .normal k)):=by cases σ;exact r
   replace z:=z.out;obtain⟨cl,hv,h0,h1,h2⟩:=z;have hr:=aS6 ops.toList σ h2;rw[<-h.nn]at hr;exact bC4 hT none hm rfl (λo _ d _=>by rw[h.kp]) h1 (dC3 h.inv.wfE h0) (λj K w' v hk Y=>⟨k,j,Φ,G',v,hk,h.next Y⟩) id h.inv hr
 |seq x y J H=>
  intro k σ a W Φ G' Gi Q h r;have z:eF8 (aI3 T P n g l x) (aI3 T P n g l y) k σ Q:=r;refine wpIn_seq (TG (J k σ a W Φ G' Gi _ h z.out) ?_);rintro e K w' ⟨C,j,u,v,E,t,hi⟩
  cases e with
  |normal=>exact H C j K w' u v E Q hi t
  |_=>exact⟨C,j,u,v,E,t,hi⟩
 |cond c x y J H=>
  intro k σ a W Φ G' Gi Q h r
  have z:(match σ.ev c with
   | .lit (.bool b)=>branch b (aI3 T P n g l x k σ Q) (aI3 T P n g l y k σ Q)
   |_=>False):=r
  have he:=(h.inv.ev c).1;split at z
  ·rename_i b D
   rw[D]at he
   cases b with
   |true=>exact wpIn_cond_true he.bH (J k σ a W Φ G' Gi Q h z)
   |false=>exact wpIn_cond_false he.bH (H k σ a W Φ G' Gi Q h z)
  ·exact z.elim
 |block id c X=>
  intro k σ a W Φ G' Gi Q h r;refine wpIn_block (TG (X k σ a W Φ G' Gi _ h r) ?_);rintro e K w' ⟨C,j,u,v,E,t,hi⟩
  cases e with
  |exit i=>
   have F:cond (Nat.beq i id) (Q .normal C j) (Q (.exit i) C j):=t;show Exit.inBlock id (eE2 T n w0 JX Q) (.exit i) K w';by_cases B:i=id
   ·subst B
    have D:Nat.beq i i=true:=Nat.beq_refl i;rw[D]at F;simp only[Exit.inBlock,TQ];exact⟨C,j,u,v,E,F,hi⟩
   ·have D:Nat.beq i id=false:=by rw[<-TF,SX];exact B
    rw[D]at F;simp only[Exit.inBlock,Q5 B];exact⟨C,j,u,v,E,F,hi⟩
  |_=>exact⟨C,j,u,v,E,t,hi⟩
 |loop c X=>
  intro k σ a W Φ G' Gi Q h r;have z:bX4 T (aI3 T P n g l c) k σ Q:=r;obtain⟨A,st,kk,inv,m,⟨p0,aa,ab,ac⟩,I⟩:=z.out
  have L:∀ {k:Option Nat} {N S:St} {a:Act} {W:World} {Φ:Fr} {G' Gi:Gh},Le T N S->pU T n w0 JX k N a W Φ G' Gi->∃Φ Gi,pU T n w0 JX k S a W Φ G' Gi:=by
   intro k N S a W Φ G' Gi R h;obtain⟨v,Z⟩:=R.out h.inv.up;have M:=λb=>h.own (b:=b);refine⟨Φ.at W Gi,v,?_⟩
   exact⟨h.nn,h.ds,h.kp,h.now hJ,λb D=>RX (h.tag b D) h.inv.size,λb D=>by
    rcases M b (by rw[show Gi.O b= .fz from D];simp)with q|q
    ·exact .inl q.2
    ·exact .inr ⟨q.1,q.2.2⟩,λb D=>by
    rcases M b D.2 with q|q
    ·exact absurd q.1 D.1
    ·exact⟨q.1,q.2.2⟩,QV h.size h.inv.size,Z⟩
  obtain⟨ag,G0,h0⟩:=L aa h;subst ac;refine wpIn_loop_ghost (λn' a w=>∃p Φ G' Gi,m p=n'/\inv p/\pU T n w0 JX (kk p) (st p) a w Φ G' Gi) (m p0) ⟨p0,ag,G',G0,rfl,ab,h0⟩ ?_;rintro n' K w' ⟨p,ae,G1,v,rfl,hi,h1⟩;refine TG (X (kk p) (st p) K w' ae G1 v _ h1 (I p hi)) ?_;rintro e a2 w2 ⟨C,j,u,E,G4,t,B⟩
  cases e with
  |normal=>
   obtain⟨p',R,ad,ai,af⟩:=t;subst ai;obtain⟨ah,G5,h5⟩:=L R B;exact⟨m p',af,p',ah,E,G5,rfl,ad,h5⟩
  |_=>exact⟨C,j,u,E,G4,t,B⟩
 |rangeFunc f ps x y J H=>intro k σ a W Φ G' Gi Q h r;exact(r:False).elim
 |exit id=>intro k σ a W Φ G' Gi Q h r;exact wpIn_exit ⟨k,σ,Φ,G',Gi,r,h⟩
 |scope c X=>
  intro k σ a W Φ G' Gi Q h r;refine bE2 (TG (X k σ a W Φ G' Gi _ h r) ?_);rintro e K w' ⟨C,j,u,v,E,t,hi⟩
  cases e with
  |goto l=>exact t.elim
  |_=>exact⟨C,j,u,v,E,t,hi⟩
 |label l=>intro k σ a W Φ G' Gi Q h r;exact wpIn_label ⟨k,σ,Φ,G',Gi,r,h⟩
 |goto l=>intro k σ a W Φ G' Gi Q h r;exact(r:False).elim
 |ret=>intro k σ a W Φ G' Gi Q h r;exact wpIn_ret ⟨k,σ,Φ,G',Gi,r,h⟩
 |refuse s=>intro k σ a W Φ G' Gi Q h r;exact(r:False).elim
end
theorem dZ5(hT:bP T P)(hm:P.follows .mixedOrders=true){f:FuncId}{q:Func}(hf:P.funcs[f]? =some q)(hc:callable P f=true){d:List V}{g:List (List V)}(hn:d.length+1<=q.ntmps)(hl:allR (λy=> !linear y) d=true)(h:itVC T P q d g):aB0 T P f d g:=by
 refine⟨hc,λw G m l I L A K J X hJ hX aa hY h0=>?_⟩;unfold itVC at h;split at h
 ·rename_i c r ac
  have h:=h l
  let JX:Option Nat->World->Gh->Prop:=λk W G=>match k with|some k=>J k W G|none=>X W G
  have U:Jcl w JX:=λk W W' G'=>by
   grind
  let Gi:Gh:={G with O:=λb=>match G.O b with| .fz=> .fz|_=> .ext}
  have D:∀b,Gi.O b= .fz↔G.O b= .fz:=λb=>by
   grind
  have ab:Keep w w G Gi:=⟨λb r=>(D b).2 r,λ_ _=>rfl⟩;have Z:T.lay w (λb=>Gi.O b= .fz):=T.lay_mono (λb r=>⟨(D b).2 r,rfl⟩) K
  let Φ:Fr:=⟨w,λ_=>False,λb=>Gi.O b= .fz,q.ntmps,λ_=>none,λ_=>none,[],λ_=>none⟩
  have M:(#[Value.func (.yield l) #[] #[]] ++m).size=d.length+1:=by simp[I];omega
  have Q:∀(j:Nat) y,d[j]? =some y->linear y=false:=λj y hy=>by
   grind [dY,QF]
  have S:∀(s:Nat) y,(V.lit (Value.func (.yield l) ⟨[]⟩ ⟨[]⟩)::d)[s]? =some y->linear y=false/\y.pure/\Rv w Gi ((#[Value.func (.yield l) #[] #[]] ++m).getD s undef) y:=by
   intro s y hy
   cases s with
   |zero=>
    simp at hy;subst hy;refine⟨rfl,by simp only[V.pure,V.ok],?_⟩
    have e:(#[Value.func (.yield l) #[] #[]] ++m).getD 0 undef=Value.func (.yield l) #[] #[] :=by
     simp_all
    rw[e];exact .lit _ rfl
   |succ s=>
    have C:d[s]? =some y:=Dk;have u:s<m.size:=by rw[I];exact(QD.1 C).1
    obtain⟨q1,q2⟩:=A s m[s] y (by simp[u]) C
    refine⟨Q s y C,q1,?_⟩
    have e:(#[Value.func (.yield l) #[] #[]] ++m).getD (s+1) undef=m[s] :=by
     rw[SQ,Array.getElem?_append_right Ae];simp[u]
    rw[e];exact q2.aW ab q1
  have z:∀s,(uD (V.lit (Value.func (.yield l) ⟨[]⟩ ⟨[]⟩)::d)).env s=match(V.lit (Value.func (.yield l) ⟨[]⟩ ⟨[]⟩)::d)[s]? with|some y=>y|none=> .tup [] :=λs=>by
   have e0:(uD (V.lit (Value.func (.yield l) ⟨[]⟩ ⟨[]⟩)::d)).env=pF (V.lit (Value.func (.yield l) ⟨[]⟩ ⟨[]⟩)::d) 0:=rfl;rw[e0,lY];grind
  have N:∀k,(uD (V.lit (Value.func (.yield l) ⟨[]⟩ ⟨[]⟩)::d)).ar k=none:=λk=>by
   have e0:(uD (V.lit (Value.func (.yield l) ⟨[]⟩ ⟨[]⟩)::d)).ar=jK (V.lit (Value.func (.yield l) ⟨[]⟩ ⟨[]⟩)::d) 0:=rfl;rw[e0,gY];simp only[Ro,TQ,TV];grind [linear]
  have inv:Inv T Φ (uD (V.lit (Value.func (.yield l) ⟨[]⟩ ⟨[]⟩)::d)) {tmps:=(#[Value.func (.yield l) #[] #[]] ++m)++Array.replicate (q.ntmps- (#[Value.func (.yield l) #[] #[]] ++m).size) undef,defers:=[]} w Gi:=by
   constructor
   ·rfl
   ·intro s v u;cases u
   ·grind
   ·intro s
    rw[z s];by_cases u:s< (#[Value.func (.yield l) #[] #[]] ++m).size
    ·have hv:((#[Value.func (.yield l) #[] #[]] ++m)++Array.replicate (q.ntmps- (#[Value.func (.yield l) #[] #[]] ++m).size) undef).getD s undef=(#[Value.func (.yield l) #[] #[]] ++m).getD s undef:=by
      rw[SQ,SQ,Ug u]
     have hy:(V.lit (Value.func (.yield l) ⟨[]⟩ ⟨[]⟩)::d)[s]? =some (V.lit (Value.func (.yield l) ⟨[]⟩ ⟨[]⟩)::d)[s] :=QE (by rw[M]at u;simpa using u)
     show Rv w Gi (((#[Value.func (.yield l) #[] #[]] ++m)++Array.replicate (q.ntmps- (#[Value.func (.yield l) #[] #[]] ++m).size) undef).getD s undef) _;rw[hv,hy];exact(S s _ hy).2.2
    ·have hy:(V.lit (Value.func (.yield l) ⟨[]⟩ ⟨[]⟩)::d)[s]? =none:=SS (by rw[M]at u;simp;omega)
     rw[hy]
     have hv:((#[Value.func (.yield l) #[] #[]] ++m)++Array.replicate (q.ntmps- (#[Value.func (.yield l) #[] #[]] ++m).size) undef).getD s undef=undef:=by
      rw[SQ,Array.getElem?_append_right Aa];grind
     show Rv w Gi (((#[Value.func (.yield l) #[] #[]] ++m)++Array.replicate (q.ntmps- (#[Value.func (.yield l) #[] #[]] ++m).size) undef).getD s undef) _;rw[hv];exact xK w Gi
   ·intro s
    rw[z s]
    cases hy:(V.lit (Value.func (.yield l) ⟨[]⟩ ⟨[]⟩)::d)[s]? with
    |none=>simp only[V.ok,V.okL]
    |some y=>exact V.pure.ok (S s y hy).2.1 _ _
   ·intro i cs' hi
    exact Og
   ·intro i cs' hi
    exact Og
   ·intro k en t;rw[N k]at t;cases t
   ·intro k en t;rw[N k]at t;cases t
   ·grind
   ·grind
   ·grind
   ·intro b r;exact .inl r
   ·intro b r;exact r
   ·intro b _ _;rfl
   ·exact QH _
   ·rfl
   ·rfl
   ·rfl
   ·intro j v h;cases h
   ·grind
   ·intro i b h;cases h
  have hi:pU T q.ntmps w JX (some 0) (uD (V.lit (Value.func (.yield l) ⟨[]⟩ ⟨[]⟩)::d)) {tmps:=(#[Value.func (.yield l) #[] #[]] ++m)++Array.replicate (q.ntmps- (#[Value.func (.yield l) #[] #[]] ++m).size) undef,defers:=[]} w Φ G Gi:=
   ⟨rfl,rfl,rfl,h0,L,λb r=> .inl ((D b).1 r),λb r=>r.elim,QH _,inv⟩
  refine callsIn_of_wp (F:=FW none) hf r trivial (TG (eQ3 hT hm U aa hY c _ _ _ w Φ G Gi _ hi h) ?_)
  have R:∀(k:Option Nat) (σ:St) (B:Act) (w':World) (Φ:Fr) (G' Gi:Gh),dZ2 g.length k->pU T q.ntmps w JX k σ B w' Φ G' Gi->B.defers=[]/\∃v,(results q B.tmps).run P w'= .ok v w'/\((∃v',Ending.returned v= .returned v')/\((∃G',J g.length w' G')\/∃G',X w' G')):=by
   intro k σ B w' Φ G' Gi hk hi;have x:=hi.now U;refine⟨by rw[hi.inv.nd,hi.ds], .tuple #[],?_,⟨_,rfl⟩,?_⟩
   ·have hr:q.results= #[] :=by
     simp_all
    simp[results,hr]
   ·cases k with
    |none=>exact .inr ⟨G',x⟩
    |some k=>
     have:k=g.length:=hk;subst this;exact .inl ⟨G',x⟩
  rintro e B w' ⟨k,σ,H,G',Gi',E,Y⟩
  cases e with
  |normal=>exact R k σ B w' H G' Gi' E Y
  |ret=>exact R k σ B w' H G' Gi' E Y
  |exit id=>exact(E:False).elim
  |goto l=>exact(E:False).elim
  |panic c=>exact(E:False).elim
  |outgrown=>exact(E:False).elim
 ·exact h.elim
theorem cD0{x y:ItC}{k:Option Nat}{Q:ItQ}(h:x k σ λe c b=>match e with
 | .normal=>y c b Q
 |e=>Q e c b):eF8 x y k σ Q:=⟨h⟩
theorem eD4{x:ItC}{k:Option Nat}{Q:ItQ}{A:Type}(st:A->St)(c:A->Option Nat)(inv:A->Prop)(m:A->Nat)(d:A)(g:Le T σ (st d))(j:inv d)(i:c d=k)(h:∀p,inv p->x (c p) (st p) λe f b=>match e with
 | .normal=>∃p',Le T b (st p')/\inv p'/\c p'=f/\m p'<m p
 |e=>Q e f b):bX4 T x k σ Q:=⟨A,st,c,inv,m,⟨d,g,j,i⟩,h⟩
theorem dE2{b:List (List V)}{l k:Nat}{xs:List V}{A B:Prop}(f:b[k]? =some xs)(e:bM xs)(d:A)(c:B):dC9 b l l k xs A B:=⟨rfl,f,e,d,c⟩
end
end Go.Ab
namespace Go.Ab
open Go.ChangeShapes Go.WideShapes Go.ChangeAt Go.RowKit
def Dec(P:Program)(w:World)(G:Gh)(t:TypeId)(Q:List V->Prop):Prop:=
 ∀(H:Type) (enc:TypeId×Value->H) (fuel:Nat) (cs:List Value) (x:DataW H×List MemPlace),DataW.trod enc P w 0 (λ_=>true) true fuel t cs=some x->
  ∃xs,Q xs/\RvL w G cs xs/\bM xs/\xs.length=P.cellsOf t/\∀y∈xs,y.atom=true
def QInt(k:IntKind)(lo hi:Int):List V->Prop:=λxs=>∃n:Int,xs=[.lit (.int k n)]/\lo<=n/\n<=hi
def QBool:List V->Prop:=λxs=>∃b:Bool,xs=[.lit (.bool b)]
def QTwo(Q R:List V->Prop):List V->Prop:=λxs=>∃a b,xs=a++b/\Q a/\R b
def zI(agg:Bool)(Q:List V->Prop):List V->Prop:=λxs=>∃l:List V,xs=[.sl l]/\l.length<=maxLen/\∀x∈l,Q x.cells/\(agg=true->∃ys,x= .agg ys)/\(agg=false->∀ys,x≠ .agg ys)
section
variable{P:Program}{w:World}{G:Gh}{t:TypeId}
theorem RvL.lit1{u:Value}(h:u.oneCell'=true):RvL w G [u] [.lit u] :=
 ⟨rfl,λv hv=>by cases QI.1 hv;exact h,λi v x hv a=>by
  cases i with
  |zero=>simp at hv a;subst hv a;exact .lit _ h
  |succ i=>simp at hv⟩
theorem dI6{k:IntKind}(e:P.underlying t=some (.int k))(c:P.cellsOf t=1){lo hi:Int}(d:∀n,(Lit.int k n).wf=true->lo<=n/\n<=hi):Dec P w G t (QInt k lo hi):=by
 intro H enc a cs x h;obtain⟨n,rfl,_,b⟩:=DataW.trod_int e h;refine⟨_,⟨n,rfl,d n b⟩,RvL.lit1 rfl,?_,by rw[c];rfl,λy hy=>Dv⟩
 simp only[bM,V.okL,V.ok,and_self]
def QStr:List V->Prop:=λxs=>∃s:ByteArray,xs=[.lit (.string s)]/\s.size<=maxLen
theorem eO8(d:P.underlying t=some .string)(c:P.cellsOf t=1):Dec P w G t QStr:=by
 intro H enc a cs x h;obtain⟨n,rfl,_,b⟩:=DataW.trod_string d h;refine⟨_,⟨n,rfl,b⟩,RvL.lit1 rfl,?_,by rw[c];rfl,λy hy=>Dv⟩
 simp only[bM,V.okL,V.ok,and_self]
def QAll:List (List V->Prop)->List V->Prop
 | [],xs=>xs=[]
 |Q::r,xs=>∃a b,xs=a++b/\Q a/\QAll r b
def Parts(P:Program)(w:World)(G:Gh):Nat->List (Nat×TypeId)->List (List V->Prop)->Nat->Prop
 |off,[],[],e=>off=e
 |off,f::r,Q::s,e=>f.1=off/\Dec P w G f.2 Q/\Parts P w G (off+P.cellsOf f.2) r s e
 |_,_,_,_=>False
theorem mM{off e:Nat}(h:off=e):Parts P w G off [] [] e:=h
theorem aY{off e:Nat}{f:Nat×TypeId}{r:List (Nat×TypeId)}{Q:List V->Prop}{s:List (List V->Prop)}(c:f.1=off)(b:Dec P w G f.2 Q)(a:Parts P w G (off+P.cellsOf f.2) r s e):Parts P w G off (f::r) (Q::s) e:=⟨c,b,a⟩
theorem cS3{p:Nat->Prop}{q:Nat->Nat->Prop}{a b:List V}(c:V.okL p q a)(d:V.okL p q b):V.okL p q (a++b):=by
 rw[aH]at*;intro x e;rcases QJ.1 e with h|h
 ·exact c x h
 ·exact d x h
theorem bV7{H:Type}{enc:TypeId×Value->H}{n:Nat}{cs:List Value}:∀(c:List (Nat×TypeId)) (a:List (List V->Prop)) (off e:Nat),Parts P w G off c a e->
 (∀f∈c,∃y,DataW.trod enc P w 0 (λ_=>true) true n f.2 ((cs.drop f.1).take (P.cellsOf f.2))=some y)->cs.length=e->
 ∃xs,QAll a xs/\RvL w G (cs.drop off) xs/\bM xs/\off+xs.length=e/\∀y∈xs,y.atom=true:=by
 intro c
 induction c with
 |nil=>
  intro a off e b _ k
  cases a with
  |nil=>
   have:off=e:=b;refine⟨[],rfl,?_,Gv,by simpa using this,Ae⟩
   rw[Uy Aa];exact⟨rfl,Ae,Ae⟩
  |cons=>exact b.elim
 |cons f r m=>
  intro a off e b j k
  cases a with
  |nil=>exact b.elim
  |cons Q s=>
   obtain⟨o,B,v⟩:=b;obtain⟨y,d⟩:=j f Ae;obtain⟨xs,z,i,l,F,x⟩:=B H enc n _ y d;obtain⟨ys,C,D,A,E,q⟩:=m s _ e v (λg u=>j g (by simp[u])) k
   refine⟨xs++ys,⟨xs,ys,rfl,z,C⟩,?_,cS3 l A,AU,?_⟩
   ·have:cs.drop off=(cs.drop off).take (P.cellsOf f.2)++cs.drop (off+P.cellsOf f.2):=by
     rw[<-List.drop_drop,RQ]
    rw[this];rw[o]at i;exact i.append D
   ·intro y d
    rcases QJ.1 d with h|h
    ·exact x y h
    ·exact q y h
theorem lZ{b:Array Field}{e:List (List V->Prop)}(o:P.underlying t=some (.struct b))(j:Parts P w G 0 (b.toList.map λf=>(f.offset,f.type)) e (P.cellsOf t)):Dec P w G t (QAll e):=by
 intro H enc c cs x h;obtain⟨xs,n,_,_,q,d,l⟩:=DataW.trod_struct o h
 obtain⟨ys,k1,k2,k3,k4,k5⟩:=bV7 (enc:=enc) (n:=n) _ _ 0 _ j (λf a=>by
  obtain⟨g,k,rfl⟩:=QZ.1 a;obtain⟨i,hi⟩:=QY k
  have m:i<b.size:=by
   have:=(QD.1 hi).1;simpa using this
  have:=l i g H7;rw[QE Aa]at this;exact⟨_,this⟩) q
 exact Qm
theorem dN6{m:Nat}{e:TypeId}{d:List (List V->Prop)}(l:P.underlying t=some (.array m e))(g:Parts P w G 0 ((List.range m).map λi=>(i*P.cellsOf e,e)) d (P.cellsOf t)):Dec P w G t (QAll d):=by
 intro H enc b cs x h;obtain⟨xs,n,_,_,o,c,k⟩:=DataW.trod_array l h
 obtain⟨ys,k1,k2,k3,k4,k5⟩:=bV7 (enc:=enc) (n:=n) _ _ 0 _ g (λf a=>by
  obtain⟨i,j,rfl⟩:=QZ.1 a;have hi:i<m:=Sl.1 j;have:=k i hi
  rw[QE Aa]at this;exact⟨_,this⟩) o
 exact Qm
theorem pV{e:TypeId}{Q:List V->Prop}(agg:Bool)(ht:P.underlying t=some (.slice e))(hc:P.cellsOf t=1)(he:Dec P w G e Q)(hz:0<P.cellsOf e)(A:agg=false->P.cellsOf e=1)(hG:∀b,b<w.heap.size->G.O b= .fz):Dec P w G t (zI agg Q):=by
 intro H enc ab cs x h;rcases Deep.open_slice ht h with⟨rfl,rfl⟩|⟨a,f,cap,m,n,D,Pl,rfl,hb,hl,hm,T,rfl,r⟩
 ·refine⟨_,⟨[],rfl,Ae,Ae⟩,⟨rfl,λv hv=>by cases QI.1 hv;rfl,λi v x hv r=>?_⟩,by simp only[bM,V.okL,V.ok,and_self],by rw[hc];rfl,λy hy=>Dv⟩
  cases i with
  |zero=>simp at hv r;subst hv r;exact .slN
  |succ i=>simp at hv
 ·simp only[TQ]at T
  subst T
  have u:∀i,i<f->∃B xs,w.cells? 0 (a.add (i*P.cellsOf e)) (P.cellsOf e)=some B/\Q xs/\RvL w G B xs/\bM xs/\xs.length=P.cellsOf e/\∀y∈xs,y.atom=true:=by
   intro i hi;obtain⟨B,I,Y⟩:=r i Aa;obtain⟨xs,q⟩:=he H enc n B _ Y;exact⟨B,xs,I,q⟩
  let X:Nat->List V:=λi=>if h:i<f then(u i h).choose_spec.choose else []
  let C:Nat->List Value:=λi=>if h:i<f then(u i h).choose else []
  have K:∀i,i<f->w.cells? 0 (a.add (i*P.cellsOf e)) (P.cellsOf e)=some (C i)/\Q (X i)/\RvL w G (C i) (X i)/\bM (X i)/\(X i).length=P.cellsOf e/\∀y∈X i,y.atom=true:=by
   intro i hi;simp only[X,C,dif_pos hi];exact(u i hi).choose_spec.choose_spec
  let E:Nat->V:=λi=>cond agg (.agg (X i)) ((X i).headD .bot)
  have M:∀i,i<f->(E i).cells=X i:=by
   intro i hi;obtain⟨_,_,_,_,J,h6⟩:=K i hi
   cases d:agg with
   |true=>simp only[E,d,SG,V.cells]
   |false=>
    have I:=A d;rw[I]at J
    match k:X i,J with
    | [y],_=>
      simp only[E,d,SA,k,UD];have:=h6 y (by rw[k];simp)
      cases y<;>first|rfl|(simp[V.atom]at this)
  let l:List V:=(List.range f).map E
  have s:l.length=f:=by simp[l]
  have F:∀x∈l,x.cells.length=P.cellsOf e:=by
   intro x r;obtain⟨i,hi,rfl⟩:=QZ.1 r;rw[M i (Sl.1 hi)];exact(K i (Sl.1 hi)).2.2.2.2.1
  have N:∀i,i<f->l[i]? =some (E i):=λi hi=>by simp[l,hi]
  have L:bM l:=by
   refine aH.2 ?_;intro x r;obtain⟨i,hi,rfl⟩:=QZ.1 r;have o:=Sl.1 hi;have W:=(K i o).2.2.2.1
   cases d:agg with
   |true=>simp only[E,d,SG,V.ok];exact W
   |false=>
    have J:=(K i o).2.2.2.2.1;rw[A d]at J
    match k:X i,J with
    | [y],_=>
      simp only[E,d,SA,k,UD];rw[k]at W;exact aH.1 W y Ae
  have z:∀(j:Nat) y,(l.flatMap V.cells)[j]? =some y->∃c,w.cell? (a.add j)=some c/\c.oneCell'=true/\Rv w G c y:=by
   intro j y hy
   have R:j<f*P.cellsOf e:=by
    have:=(QD.1 hy).1;rw[sH F,s]at this;exact this
   have hi:j/P.cellsOf e<f:=Nat.div_lt_of_lt_mul (by rw[Nat.mul_comm];exact R)
   have hr:j% P.cellsOf e<P.cellsOf e:=RV _ hz;have hj:j/P.cellsOf e*P.cellsOf e+j% P.cellsOf e=j:=by rw[Nat.mul_comm];exact Nat.div_add_mod j _
   have S:=flat_get F (N _ hi) (j% P.cellsOf e) hr;rw[hj,hy,M _ hi]at S;obtain⟨g1,g2,g3,g4,g5,g6⟩:=K _ hi;obtain⟨_,c1,c2⟩:=World.cells?_some g1;have g:=c2 _ hr
   rw[Deep.add_add,hj]at g;have hlt:j% P.cellsOf e< (C (j/P.cellsOf e)).length:=by rw[c1];exact hr
   rw[QE hlt]at g;refine⟨_,g,g3.one _ (Tm hlt),g3.rel (j% P.cellsOf e) _ y Iw S.symm⟩
  let cc:Nat->Value:=λj=>(w.cell? (a.add j)).getD undef
  have g:∀(j:Nat) y,(l.flatMap V.cells)[j]? =some y->w.cell? (a.add j)=some (cc j)/\(cc j).oneCell'=true/\Rv w G (cc j) y:=by
   intro j y hy;obtain⟨c,I,Y,h3⟩:=z j y hy;have:cc j=c:=by simp[cc,I]
   rw[this];exact⟨I,Y,h3⟩
  have Z:0<l.length->G.O a.block= .fz:=by
   intro h0;rw[s]at h0;have ac:0< (l.flatMap V.cells).length:=by rw[sH F,s];exact Nat.mul_pos h0 hz
   have I:=(g 0 (l.flatMap V.cells)[0] Ae).1;refine hG _ ?_;have aa:(a.add 0).block=a.block:=FV
   rcases Ry a.block w.heap.size with h|h
   ·exact h
   ·exfalso
    have:w.heap[(a.add 0).block]? =none:=by rw[aa];exact Array.getElem?_eq_none h
    simp[World.cell?,this]at I
  refine⟨[.sl l],⟨l,rfl,by rw[s];omega,?_⟩,⟨rfl,λv hv=>by cases QI.1 hv;rfl,λi v x hv r=>?_⟩,?_,by rw[hc];rfl,λy hy=>Dv⟩
  ·intro x r
   obtain⟨i,hi,rfl⟩:=QZ.1 r;have o:=Sl.1 hi;rw[M i o];refine⟨(K i o).2.1,λU=>⟨X i,?_⟩,λU ys=>?_⟩
   ·simp only[E,U,SG]
   ·have J:=(K i o).2.2.2.2.1
    rw[A U]at J
    match k:X i,J with
    | [y],_=>
      simp only[E,U,SA,k,UD];have:=(K i o).2.2.2.2.2 y (by rw[k];simp)
      intro e;rw[e]at this;simp[V.atom]at this
  ·cases i with
   |zero=>
    simp at hv r;subst hv r;have:=Rv.slS (w:=w) (G:=G) a m l (P.cellsOf e) cc (by rw[s];exact hl) hm Z F (λj y hy=>⟨(g j y hy).1,(g j y hy).2.1⟩) (λj y hy=>(g j y hy).2.2)
    rwa [s]at this
   |succ i=>simp at hv
  ·simp only[bM,V.okL,V.ok,Uo]
   exact L
def wE(P:Program)(T:Tab)(w:World)(G:Gh)(R:List V->Prop)(ts:List TypeId):Prop:=
 ∀(H:Type) (enc:TypeId×Value->H) (vs:List Value) (ds:List (DataW H)) (ps:List MemPlace),DataW.TrodAll enc P w 0 (λ_=>true) true ts vs ds ps->
  (∀(j:Nat) t v,ts[j]? =some t->vs[j]? =some v->(aggB (P.underlying t)=true->∃cs,v= .agg cs)/\(aggB (P.underlying t)=false->∀cs,v≠ .agg cs))->
  ∃ys,R ys/\ys.length=vs.length/\∀(j j':Nat) v y,vs[j]? =some v->ys[j]? =some y->Rb T w G j' v y
theorem dF6{T:Tab}{j:Nat}{v:Value}{y:V}(a:y.pure)(b:linear y=false)(h:Rv w G v y):Rb T w G j v y:=by
 cases y<;>first|exact⟨a,h⟩|(simp[linear]at b)
def aI0(agg:Bool)(xs:List V):V:=cond agg (.agg xs) (xs.headD .bot)
theorem vW{T:Tab}:wE P T w G (λys=>ys=[]) [] :=by
 intro H enc vs ds a h _;obtain⟨rfl,_,_⟩:=trodAll_nil h;exact⟨[],rfl,rfl,Ae⟩
theorem oV{T:Tab}{E:List TypeId}{Q:List V->Prop}{R:List V->Prop}(k:Dec P w G t Q)(m:aggB (P.underlying t)=false->P.cellsOf t=1)(S:wE P T w G R E):
 wE P T w G (λys=>∃xs r,ys=aI0 (aggB (P.underlying t)) xs::r/\Q xs/\R r) (t::E):=by
 intro H enc vs ds U h a;obtain⟨v,o,d,l,p,q,rfl,rfl,rfl,n,M⟩:=trodAll_cons h;obtain⟨e,n⟩:=n;obtain⟨xs,N,z,D,C,I⟩:=k H enc e _ _ n;obtain⟨r,L,K,F⟩:=S H enc o l q M (λj t v k hv=>a (j+1) t v (by simpa using k) Bl)
 refine⟨_,⟨xs,r,rfl,N,L⟩,by simp[K],?_⟩
 intro j O u y g f
 cases j with
 |succ j=>simp at g f;exact F j O u y g f
 |zero=>
  simp at g f;subst g f
  cases A:aggB (P.underlying t)with
  |true=>
   obtain⟨cs,rfl⟩:=(a 0 t v Ae Ae).1 A;have b:RvL w G cs.toList xs:=z;refine dF6 (by simp only[aI0,SG,V.ok];exact D) rfl ?_
   exact .agg cs xs (by have:=b.len;simpa using this) (λc hc=>b.one c D9) (λi c x hc s=>b.rel i c x D9 s)
  |false=>
   rw[m A]at C
   match xs,C with
   | [x],_=>
     have s:=I x Ae;have B:=z.len
     have J:x.pure:=aH.1 D x Ae
     have hv:Rv w G v x:=by
      cases v with
      |agg cs=>
       exact absurd rfl ((a 0 t _ Ae Ae).2 A cs)
      |_=>exact z.rel 0 _ x (by simp[Value.cells]) rfl
     refine dF6 (by simp only[aI0,SA,UD];exact J) ?_ (by simpa [aI0]using hv)
     simp only[aI0,SA,UD];cases x<;>first|rfl|(simp[V.atom]at s)
theorem cF6{r:Reach}{b:Nat}{v:Value}(h:Value.okWide P w r b t v):(aggB (P.underlying t)=true->∃cs,v= .agg cs)/\(aggB (P.underlying t)=false->∀cs,v≠ .agg cs):=by
 unfold Value.okWide at h;split at h
 ·rename_i d hu
  exact P5
 ·rename_i n e hu
  exact P5
 ·rename_i g f
  refine⟨λc=>?_,λ_ cs hv=>?_⟩
  ·unfold aggB at c
   split at c
   ·rename_i d hu;exact(g d hu).elim
   ·rename_i n e hu;exact(f n e hu).elim
   ·cases c
  ·subst hv
   unfold Cell.okWide at h;split at h<;>first|(rename_i a;cases a;done)|(rename_i a _;cases a;done)|skip
   unfold Cell.ok at h;split at h<;>first|(rename_i a;cases a;done)|(rename_i a _;cases a;done)|exact h
theorem bO3{H:Type}{enc:TypeId×Value->H}{f:Func}{s:ChangeSpec}{d m h o:Bool}{W q:World}{args:Array Value}{v:Value}{ds x:List (DataW H)}{a pa pv:List MemPlace}
 (y:DataW.Whole enc P f.params.toList s.vars d W args.toList ds x a)
 (k:∀(b:Nat) (n:Nat->Bool) (C:Bool),DataW.TrodAll enc P q b n C f.resultTypes.toList (v.resultList f.resultTypes.size) (s.fn H (ds++x)).results [])
 (c:∀n:Nat->Bool,(∀p∈a,n p.block=true)->DataW.TrodAll enc P q 0 n true f.params.toList args.toList (s.fn H (ds++x)).args pa)
 (g:∀n:Nat->Bool,(∀p∈a,n p.block=true)->DataW.TrodVars enc P q n s.vars (s.fn H (ds++x)).vars pv)
 (i:a=pa++pv)(B:Below W.heap.size W q)
 (z:∀(j:Nat) (t:TypeId) (r:Value),f.resultTypes[j]? =some t->(v.resultList f.resultTypes.size)[j]? =some r->Value.okWide P q .any 0 t r):
 s.post enc P f d m h o W args v q:=by
 have l:∀p∈a,(λb=>decide (b<W.heap.size)) p.block=true:=λp e=>by simpa using y.lt p e
 have A:∀p∈a,p.block<W.heap.size:=λp e=>y.lt p e;refine⟨ds,x,a,[],pa,pv,y,k _ _ _,c _ l,g _ l,World.keptBut_mono (λp e=>⟨e,?_⟩) (B.frame (·∈a)),λ_=>?_⟩
 ·rw[i,QJ]at e
  exact Or.inr e
 ·obtain⟨_,_,_,_,_,F,D⟩:=y
  refine⟨z,_,_,([] ++pa)++pv,⟨[] ++pa,pv,trodAll_append (c _ (λ_ _=>rfl)) (k _ _ _),g _ (λ_ _=>rfl),rfl,?_,?_⟩,?_⟩
  ·intro b off e
   have u:MemPlace.cell b off∈a:=by rw[i];simpa using e
   rw[B.frozen (p:=⟨b,off,none⟩) (A _ u)];exact F b off u
  ·intro E
   have:=D E;rw[i]at this;simpa using this
  ·intro p e _
   rw[i];simpa using e
theorem bN8{H:Type}{enc:TypeId×Value->H}{W j:World}(n:laidOutB P=true)(l:Below W.heap.size W j){k:Nat->Bool}:∀(a:List TypeId) (vs:List Value) (ds:List (DataW H)) (b:List MemPlace),
 (∀t∈a,P.readableRec t=true/\t<P.types.size)->DataW.TrodAll enc P W 0 (λ_=>true) true a vs ds b->(∀p∈b,p.block<W.heap.size/\k p.block=true)->DataW.TrodAll enc P j 0 k true a vs ds b:=by
 intro a
 induction a with
 |nil=>
  intro vs ds b _ h _;obtain⟨rfl,rfl,rfl⟩:=trodAll_nil h;exact trodAll_mk0
 |cons t r m=>
  intro vs ds b c h e;obtain⟨v,f,d,i,p,q,rfl,rfl,rfl,s,o⟩:=trodAll_cons h;refine trodAll_cons_mk ?_ (m f i q (λt g=>c t (by simp[g])) o (λx hx=>e x BH))
  exact WideElems.Trod_stays n (c t Ae).1 (c t Ae).2 s (λx hx=>l.same (e x BH).1) (λx hx=>(e x BH).2)
def bQ(W:World):Gh:=⟨λ_=>0,λ_ _=>undef,λb=>if b<W.heap.size then .fz else .ext⟩
theorem jZ(W:World):∀b,b<W.heap.size->(bQ W).O b= .fz:=λb a=>by simp[bQ,a]
theorem tJ{T:Tab}{f:FuncId}{u:Func}{s:ChangeSpec}{tb:TypeId}{R:List V->Prop}(hl:laidOutB P=true)(g:s.vars=[])(X:∀(H:Type) (ds:List (DataW H)),ds.length=u.params.size->s.fn H ds={results:=[.lit (.bool true)],args:=ds})
 (o:u.resultTypes= #[tb])(N:P.underlying tb=some .bool)(ad:∀t∈u.params.toList,P.readableRec t=true/\t<P.types.size)
 (M:∀W:World,wE P T W (bQ W) R u.params.toList)(E:∀ys,R ys->Spec T P f ys (.lit (.bool true)))
 {H:Type}{enc:TypeId×Value->H}{a z l C:Bool}(W:World)(K:Nat)(args:Array Value)(ds gs:List (DataW H))(n:List MemPlace)
 (L:∀(j:Nat) t v,u.params[j]? =some t->args[j]? =some v->Value.okWide P W .any K t v)
 (hW:DataW.Whole enc P u.params.toList s.vars a W args.toList ds gs n)(I:T.lay W (λb=>b<W.heap.size)):
 Calls P f args W λe W'=>∃v,e= .returned v/\s.post enc P u a z l C W args v W':=by
 have Q:=hW;obtain⟨p,q,hA,hV,rfl,al,ak⟩:=hW;rw[g]at hV;obtain⟨rfl,rfl⟩:=trodVars_none hV;obtain⟨ys,hR,F,aj⟩:=M W H enc args.toList ds p hA (λj t v ht hv=>cF6 (L j t v (by simpa using ht) Bl))
 obtain⟨ah,hs⟩:=E ys hR
 have ae:∀b,(bQ W).O b≠ .ext->b<W.heap.size:=λb m=>by
  by_cases h:b<W.heap.size
  ·exact h
  ·simp[bQ,h]at m
 have af:∀b i,(bQ W).O b≠ .bx i:=λb i m=>by
  by_cases h:b<W.heap.size<;>simp[bQ,h]at m
 have ai:∀b j,(bQ W).O b≠ .ar j:=λb i m=>by
  by_cases h:b<W.heap.size<;>simp[bQ,h]at m
 refine(hs W (bQ W) args (by rw[F];simp) ae af (λj v y hv hy=>aj j j v y Bl hy) (T.lay_mono (λb m=>⟨jZ W b m,rfl⟩) I)).mono ?_
 rintro e W' ⟨v,G',rfl,hr,_,_,_,_,B,D,ag,A,J⟩;refine⟨v,rfl,?_⟩;have hv:v= .bool true:=hr.2.bH;subst hv;have m:Below W.heap.size W W':=⟨ag,A,J,D,λk hk=>B k hk (ai k)⟩
 have ab:∀x∈p,x.block<W.heap.size:=λx hx=>Q.lt x BH
 have U:ds.length=u.params.size:=by
  have gen:∀(S:List TypeId) (vs:List Value) (ds:List (DataW H)) (Z:List MemPlace),DataW.TrodAll enc P W 0 (λ_=>true) true S vs ds Z->ds.length=S.length:=by
   intro S
   induction S with
   |nil=>intro vs ds Z h;obtain⟨_,rfl,_⟩:=trodAll_nil h;rfl
   |cons t r ih=>
    intro vs ds Z h;obtain⟨v,aa,d,Y,p,q,rfl,rfl,rfl,h1,h2⟩:=trodAll_cons h;simp[ih aa Y q h2]
  have:=gen _ _ _ _ hA;simpa using this
 have c:=X H ds U;refine bO3 (pa:=p) (pv:=[]) Q ?_ ?_ ?_ rfl m ?_
 ·intro b sp hd
  rw[QU,c,o];exact trodAll_cons_mk (shut_bool N true) trodAll_mk0
 ·intro sp ac
  rw[QU,c];exact bN8 hl m _ _ _ _ ad hA (λx hx=>⟨ab x hx,ac x BH⟩)
 ·intro sp _
  rw[QU,c,g];rfl
 ·exact ok_one o rfl (okWide_bool_mk N true)
end
end Go.Ab
