/- Lemmas. -/
import Derived.Test.YtecbpikbjfihmaaGreatDoorA2
import Derived.Laws.Cover3
import Derived.Deep.LoopGhost
set_option linter.all false
set_option autoImplicit true
set_option relaxedAutoImplicit true
noncomputable section
namespace Go.Ab
theorem dH8 f xs:(V.agg xs).ren f= .agg (xs.map (V.ren f)):=by
 have h:∀l,(V.agg l).ren f= .agg (l.map (V.ren f)):=by
  intro l;induction l with
  |nil=>rfl
  |cons x r c=>
   have b:(V.agg (x::r)).ren f=(match(V.agg r).ren f with| .agg l=> .agg (x.ren f::l)|y=>y):=rfl;rw[b,c];rfl
 exact h xs
theorem dD2 f xs:(V.tup xs).ren f= .tup (xs.map (V.ren f)):=by
 have h:∀l,(V.tup l).ren f= .tup (l.map (V.ren f)):=by
  intro l;induction l with
  |nil=>rfl
  |cons x r c=>
   have b:(V.tup (x::r)).ren f=(match(V.tup r).ren f with| .tup l=> .tup (x.ren f::l)|y=>y):=rfl;rw[b,c];rfl
 exact h xs
theorem eK1 f g xs:(V.fn g xs).ren f= .fn g (xs.map (V.ren f)):=by
 have h:∀l,(V.fn g l).ren f= .fn g (l.map (V.ren f)):=by
  intro l;induction l with
  |nil=>rfl
  |cons x r c=>
   have b:(V.fn g (x::r)).ren f=(match(V.fn g r).ren f with| .fn g l=> .fn g (x.ren f::l)|y=>y):=rfl;rw[b,c];rfl
 exact h xs
mutual
theorem V.ok.ren{p p':Nat->Prop}{q:Nat->Nat->Prop}{f:Nat->Nat}(b:∀j,p j->p' (f j)):(x:V)->x.ok p q->(x.ren f).ok p' q
 | .bot,_=>Hy
 | .lit u,_=>G8
 | .agg l,h=>by
   rw[dH8];simp only[V.ok]at h⊢;exact V.okL.ren b l h
 | .tup l,h=>by
   rw[dD2];simp only[V.ok]at h⊢;exact V.okL.ren b l h
 | .sl l,h=>EJ
 | .cap l,h=>EF
 | .own e l,h=>Eo
 | .ap e l,h=>Ez
 | .box j off,h=>by
   show V.ok _ _ (.box (f j) off);simp only[V.ok]at h⊢;exact b j h
 | .arr k g,h=>Ep
 | .fp l,h=>EK
 | .ae k g z i' o,h=>DL
 | .fn g l,h=>by
   rw[eK1];simp only[V.ok]at h⊢;exact V.okL.ren b l h
theorem V.okL.ren{p p':Nat->Prop}{q:Nat->Nat->Prop}{f:Nat->Nat}(b:∀j,p j->p' (f j)):(l:List V)->V.okL p q l->V.okL p' q (l.map (V.ren f))
 | [],_=>by simp only[SY,V.okL]
 |x::r,h=>by
  simp only[Rt,V.okL]at h⊢;exact⟨V.ok.ren b x h.1,V.okL.ren b r h.2⟩
end
section
variable{T:Tab}{P:Program}{Φ:Fr}{σ:St}{a:Act}{w w':World}{G G':Gh}{K:VK}{o:Oper}{d:Nat}
def Rv.ren(C:Keep w w G G')(h:Rv w G v x):
 ∀ {p},x.ok p (λ_ _=>False)->(∀i,p i->G'.β (f i)=G.β i)->Rv w G' v (x.ren f):=by
 induction h with
 |bot v=>intros;exact .bot v
 |lit u h=>intros;exact .lit u h
 |agg vs xs hl E _ ih=>
  intro p hok hp;rw[dH8];refine .agg vs _ BG E λj c x hc hx=>?_;exact P9
 |tup vs xs hl _ ih=>
  intro p hok hp;rw[dD2];refine .tup vs _ BG λj c x hc hx=>?_;exact P9
 |slN=>intros;exact .slN
 |slS a c l sz cc t q r z A B _=>
  intro p hok hp;exact(Rv.slS a c l sz cc t q r z A B).aW C Bf
 |capN=>intros;exact .capN
 |capS a l sz cc q r z A B _=>
  intro p hok hp;exact(Rv.capS a l sz cc q r z A B).aW C Bf
 |box j off=>
  intro p hok hp;rw[<-hp j hok];exact .box (f j) off
 |arr k g h=>
  intro p hok hp;simp[V.ok]at hok
 |fp a l cc t q r _=>
  intro p hok hp;exact(Rv.fp a l cc t q r).aW C Bf
 |ae k g sz j off a n c h=>
  intro p hok hp;simp[V.ok]at hok
 |fn g H e hl _ ih=>
  intro p hok hp;rw[eK1];refine .fn g H _ BG λj c x hc hx=>?_;rw[RN]at hx;cases hy:e[j]? with
  |none=>rw[hy]at hx;cases hx
  |some y=>exact J4
 |fb g D e hl _ ih=>
  intro p hok hp;rw[eK1];refine .fb g D (e.map (V.ren f)) BG λj c x hc hx=>?_;rw[RN]at hx;cases hy:e[j]? with
  |none=>rw[hy]at hx;cases hx
  |some y=>
   rw[hy]at hx;simp[Tj,SI]at hx;subst hx;exact ih j c y hc hy (aH.1 hok.2 y (QZ hy)) hp
 |mp b s m g F es val t q r z A B _=>
  intro p hok hp;exact(Rv.mp b s m g F es val t q r z A B).aW C Fq
abbrev Grp:=List (List V×List V)
def PosG(gs:Grp)(γ q k:Nat):Prop:=∃g,gs[γ]? =some g/\zW g.1 g.2 q k
theorem aT8:k∈bD ys xs↔∃q,zW xs ys q k:=by
 rw[oZ];constructor;rintro⟨i,x,y,h⟩;exact⟨i,x,y,h⟩;rintro⟨i,x,y,h⟩;exact⟨i,x,y,h⟩
theorem bT5 g(gs:Grp):ownG (g::gs)=bD g.2 g.1++ownG gs:=by
 have:ownG (g::gs)=appR (bD g.2 g.1) (ownG gs):=rfl;rw[this,bT]
theorem cX2 g(gs:Grp):mF (g::gs)=bK g.2 g.1++mF gs:=by
 have:mF (g::gs)=appR (bK g.2 g.1) (mF gs):=rfl;rw[this,bT]
def aP0{gs:Grp}:k∈ownG gs↔∃b q,PosG gs b q k:=by
 induction gs with
 |nil=>
  have:ownG [] =[] :=rfl;constructor;intro h;cases h;rintro⟨b,q,g,h,_⟩;simp at h
 |cons g gs i=>
  rw[bT5,Rh,i,aT8];constructor;rintro(⟨q,h⟩|⟨b,q,h⟩);exact⟨0,q,g,rfl,h⟩;let⟨f,c,e⟩:=h;exact⟨b+1,q,f,c,e⟩;rintro⟨b,q,f,c,e⟩;cases b with
  |zero=>simp at c;subst c;exact .inl ⟨q,e⟩
  |succ b=>exact .inr ⟨b,q,f,c,e⟩
def aS8{gs:Grp}:k∈mF gs↔∃(b:Nat) (g:List V×List V),gs[b]? =some g/\k∈bK g.2 g.1:=by
 induction gs with
 |nil=>
  have:mF [] =[] :=rfl;simp_all
 |cons g gs i=>
  rw[cX2,Rh,i];constructor;rintro(h|⟨b,c,e,f⟩);exact⟨0,g,rfl,h⟩;exact⟨b+1,c,e,f⟩;grind
theorem aA3{gs:Grp}(s:(ownG gs).Nodup)(h:PosG gs c q k)(p:PosG gs b f k):c=b/\q=f:=by
 induction gs generalizing c b with
 |nil=>let⟨g,h,_⟩:=h;simp at h
 |cons g gs t=>
  rw[bT5,List.nodup_append]at s;let⟨z,u,v⟩:=s
  have e:∀ {c q f},PosG (g::gs) 0 q k->PosG (g::gs) (c+1) f k->False:=by
   rintro c q f ⟨r,i,j⟩ ⟨n,l,m⟩;simp at i;subst i;exact v k (aT8.2 ⟨q,j⟩) k (aP0.2 ⟨c,f,n,by simpa using l,m⟩) rfl
  cases c with
  |zero=>
   cases b with
   |zero=>
    let⟨r,i,j⟩:=h;let⟨n,l,m⟩:=p;grind [aK3]
   |succ b=>exact(e h p).elim
  |succ c=>
   cases b with
   |zero=>exact(e p h).elim
   |succ b=>
    let⟨r,i,j⟩:=h;let⟨n,l,m⟩:=p;obtain⟨x,y⟩:=t u ⟨r,by simpa using i,j⟩ ⟨n,by simpa using l,m⟩;simp_all
def aB1:∀ {ys xs},bI2 T ar is ys xs->xs.length=ys.length/\∀(i:Nat) x y,xs[i]? =some x->ys[i]? =some y->aP8 T ar is x y:=by
 intro ys;induction ys with
 |nil=>
  intro xs h;exact Ou
 |cons y r e=>
  intro xs h;cases xs with
  |nil=>exact(h:False).elim
  |cons x xr=>
   obtain⟨b,c⟩:aP8 T ar is x y/\bI2 T ar is r xr:=h;grind
def dO7:∀ {ys xs},refL is ys xs->xs.length=ys.length/\∀(i:Nat) x y,xs[i]? =some x->ys[i]? =some y->bU9 is x y:=by
 intro ys;induction ys with
 |nil=>
  intro xs h;exact Ou
 |cons y r e=>
  intro xs h;cases xs with
  |nil=>exact(h:False).elim
  |cons x xr=>
   obtain⟨b,c⟩:bU9 is x y/\refL is r xr:=h;grind
def aJ8:∀ {gs:Grp},xM T ar is gs->∀(b:Nat)  g,gs[b]? =some g->bI2 T ar is g.2 g.1:=by
 intro gs;induction gs with
 |nil=>intro _ b g h;simp at h
 |cons c gs j=>
  intro h b g i;obtain⟨e,f⟩:bI2 T ar is c.2 c.1/\xM T ar is gs:=h;grind
def aR3:∀ {bs} {is},is.length=bs.length->∀(j:Nat)  g,(eU bx bs is)[j]? =some g↔∃ i  b,is[j]? =some i/\bs[j]? =some b/\g=((bx i).getD [],b):=by
 intro bs;induction bs with
 |nil=>
  intro is _ j g;have:eU bx [] is=[] :=rfl;rw[this];simp
 |cons b r h=>
  intro is f j g;cases is with
  |nil=>simp at f
  |cons i c=>
   have e:eU bx (b::r) (i::c)=((bx i).getD [],b)::eU bx r c:=by
    show((match bx i with|some cs=>cs|none=> []),b)::eU bx r c=_;cases bx i<;>rfl
   grind
def aW7(inv:Inv T Φ σ a w G)(s:Keep w w G G')(Q:∀b i,nth is (b-100000)=some i->100000<=b->G'.β b=G.β i)(h:aP8 T σ.ar is x y)(hv:Rv w G v x)(hok:x.ok σ.hasB σ.hasA)
 (t:linear y=false->∀k∈jQ x,∀b,G.O b= .ar k->G'.O b= .fz)(m:linear y=true->∀k∈jQ x,∀b,G.O b= .ar k->G'.O b= .ar j):RbB T w G' is.length j v y:=by
 have B:∀{v}{x y},bU9 is x y->Rv w G v x->x.ok σ.hasB σ.hasA->y.ok (λi=>100000<=i/\i<100000+is.length) (λ_ _=>False)/\Rv w G' v y:=by
  intro v x y h hv hok;unfold bU9 at h;split at h;rename_i b off;split at h;rename_i i S;let⟨U,W,rfl⟩:=h;have X:=Uc W;have n:=U;have Y:b-100000<is.length:=by rw[uN]at n;exact(QW.1 n).1
  refine⟨by simp[V.ok];omega,?_⟩;rw[hv.bI6,<-Q b i n X];exact .box b _;exact h.elim;split at h;subst h;exact⟨by simp[V.ok];exact hok,hv.aW s BO⟩;exact h.elim;split at h;subst h;exact⟨BN,by rw[hv.bH];exact .lit _ hv.aZ3⟩;exact h.elim;split at h;exact nomatch hv
  exact h.elim;exact h.elim
 unfold aP8 at h;split at h
 ·exact⟨BN, .bot v⟩
 ·exact B h hv hok
 ·rename_i g ys
  split at h
  ·rename_i D xs
   cases u:isMapC ys with
   |true=>
    rw[u]at h;obtain⟨rfl,rfl⟩:D=g/\xs=ys:=h;have R:=fn_atom_pure (g:=D) (l:=xs) (by show cond (isMapC xs) true _=true;rw[u];rfl) hok;exact⟨R.ok _ _,hv.aW s R⟩
   |false=>
   rw[u]at h;obtain⟨rfl,h⟩:D=g/\refL is ys xs:=h;let⟨hl,I⟩:=dO7 h
   have N:isFnC xs=true:=by
    cases xs with
    |nil=>rfl
    |cons Z xr=>
     cases Z with
     |ap e l=>
      cases ys with
      |nil=>simp at hl
      |cons y0 yr=>
       have E:=I 0 (.ap e l) y0 rfl rfl;unfold bU9 at E;split at E<;>exact E.elim
     |_=>rfl
   rcases hv.cU8 N with⟨J,L,e2,M⟩|⟨H,cs,L,rfl,e2,M⟩;rotate_left
   ·obtain⟨C,rfl⟩:∃C,ys= .own 0 [] ::C:=by
     cases ys with
     |nil=>simp at hl
     |cons z C=>
      have E:=I 0 (.own 0 []) z rfl rfl;unfold bU9 at E;grind
    simp only[V.ok,V.okL]at hok
    have f:∀(i:Nat) c y,H[i]? =some c->C[i]? =some y->y.ok (λi=>100000<=i/\i<100000+is.length) (λ_ _=>False)/\Rv w G' c y:=by
     intro i c y q hy;have hi:i<cs.length:=by simp[Ro]at hl;have:=(QW.1 hy).1;omega
     have A:=QX hi;exact B (I (i+1) _ y A hy) (M i c _ q A) (aH.1 hok.2 _ (QZ A))
    have F:cs.length=C.length:=by simp[Ro]at hl;omega
    refine⟨?_,?_⟩
    ·simp only[V.ok,V.okL]
     refine⟨trivial,aH.2 λy hy=>?_⟩;let⟨i,hi⟩:=RF hy;have r:i<H.size:=by rw[e2,F];exact(QW.1 hi).1
     exact(f i H[i] y (by simp[r]) hi).1
    ·rw[L]
     exact .fb D H C (by rw[e2,F]) λi c y q hy=>(f i c y q hy).2
   simp[V.ok]at hok
   have f:∀(i:Nat) c y,J[i]? =some c->ys[i]? =some y->y.ok (λi=>100000<=i/\i<100000+is.length) (λ_ _=>False)/\Rv w G' c y:=by
    intro i c y q hy;have hi:i<xs.length:=Fe;have A:=QX hi;exact B (I i _ y A hy) (M i c _ q A) (aH.1 hok _ (QZ A))
   refine⟨?_,?_⟩
   ·simp[V.ok]
    refine aH.2 λy hy=>?_;let⟨i,hi⟩:=RF hy;have r:i<J.size:=EN;exact(f i J[i] y (by simp[r]) hi).1
   ·rw[L]
    exact .fn D J ys (by rw[e2,hl]) λi c y q hy=>(f i c y q hy).2
  ·exact h.elim
 ·exact dQ1 (aJ2 inv s h hv hok t m)
def oM(bx:Nat->Option (List V))(is:List Nat):List Mod:=is.map λi=> .b i (((bx i).getD []).map λ_=>V.bot)
theorem bX5 bx:∀ is (τ:St)  i,(τ.apps (oM bx is)).bx i=if i∈is then some (((bx i).getD []).map λ_=>V.bot)else τ.bx i:=by
 intro is;induction is with
 |nil=>intro τ i;simp[oM,St.apps]
 |cons j r g=>
  intro τ i;have e:τ.apps (oM bx (j::r))=((Mod.b j (((bx j).getD []).map λ_=>V.bot)).app τ).apps (oM bx r):=rfl;rw[e,g];by_cases c:i∈r;simp[c];by_cases f:i=j;subst f;simp[c,Uu,Rl,true_or,Uy];exact upd_same _ _ _;simp[c,f,Uu,Rl,or_self];exact upd_ne _ _ f
theorem dI5 bx:∀ is (τ:St),(τ.apps (oM bx is)).ar=τ.ar:=by
 intro is;induction is with
 |nil=>intro τ;rfl
 |cons j r c=>
  intro τ;have e:τ.apps (oM bx (j::r))=((Mod.b j (((bx j).getD []).map λ_=>V.bot)).app τ).apps (oM bx r):=rfl;rw[e,c];rfl
def aL0{gs:Grp}(h:zA bx gs is bs r=true):
 (ownG gs).Nodup/\(∀k∈ownG gs,k∉mF gs)/\is.Nodup/\is.length=bs.length/\(∀i∈is,∃cs,bx i=some cs)/\(∀b∈bs,b.length<1000)/\is.length<=8/\∀rs,r= .tup rs->rs.length<1000:=by
 unfold zA at h;simp only[Ru]at h;let⟨⟨⟨⟨⟨⟨⟨e,j⟩,f⟩,l⟩,g⟩,m⟩,c⟩,n⟩:=h;refine⟨uU.1 e,λk q s=>?_,uU.1 f,?_,λi hi=>?_,λb p=>?_,?_,?_⟩
 ·grind [dY,pM]
 ·grind [Td,iL]
 ·have:=dY.1 g i hi
  unfold isS at this;grind
 ·simp_all [dY,iL]
 ·rw[iL]at c
  exact Uc c
 ·rintro rs rfl;simp_all [iL]
def GiveS(T:Tab)(σ:St)(w:World)(G:Gh)(is:List Nat)(gs:Grp):Prop:=
 ∀(γ:Nat) (g:List V×List V),gs[γ]? =some g->g.1.length=g.2.length/\∀(q:Nat) x y,g.1[q]? =some x->g.2[q]? =some y->
  ∀(G':Gh) (j:Nat) (v:Value),Keep w w G G'->(∀b i,nth is (b-100000)=some i->100000<=b->G'.β b=G.β i)->Rv w G v x->x.ok σ.hasB σ.hasA->
   (linear y=false->∀k∈jQ x,∀b,G.O b= .ar k->G'.O b= .fz)->(linear y=true->∀k∈jQ x,∀b,G.O b= .ar k->G'.O b= .ar j)->RbB T w G' is.length j v y
def GiveS.ofB(inv:Inv T Φ σ a w G){gs:Grp}(h:xM T σ.ar is gs):GiveS T σ w G is gs:=λc g b=>
 ⟨(aB1 (aJ8 h c g b)).1,λq x y m n _ _ _ e f i j k l=>aW7 inv e f ((aB1 (aJ8 h c g b)).2 q x y m n) i j k l⟩
def GiveS.ofL(inv:Inv T Φ σ a w G)(h:iQ T σ.ar ys xs):GiveS T σ w G [] [(xs,ys)] :=λe g c=>by
 let⟨f,i⟩:=qM h;cases e with
 |zero=>
  cases c;exact⟨f,λq x y n p _ _ _ b _ j k l m=>dQ1 (aJ2 inv b (i q x y n p) j k l m)⟩
 |succ e=>simp at c
set_option maxHeartbeats 1600000 in
def giveout(inv:Inv T Φ σ a w G){gs:Grp}(hgs:gs=(xs,ys)::eU σ.bx bs is)(U:GiveS T σ w G is gs)
 (ai:(ownG gs).Nodup)(ab:∀k∈ownG gs,k∉mF gs)(ad:is.Nodup)(hil:is.length=bs.length)(hisb:∀i∈is,∃cs,σ.bx i=some cs):
 ∃e,(∀b,(e.O b= .fz/\(G.O b= .fz\/∃k∈mF gs,G.O b= .ar k))\/(∃k∈ownG gs,G.O b= .ar k/\∃t,e.O b= .ar t)\/(∃ j  i,is[j]? =some i/\(G.O b= .bx i/\b=G.β i)/\e.O b= .bx (100000+j))\/e.O b= .ext)/\
  (∀b,(G.O b= .fz\/∃k∈mF gs,G.O b= .ar k)->e.O b= .fz)/\(∀ j i,is[j]? =some i->e.β (100000+j)=G.β i)/\BxOk T w e bs/\
  ∀ j v x y,xs[j]? =some x->ys[j]? =some y->Rv w G v x->x.ok σ.hasB σ.hasA->RbB T w e bs.length j v y:=by
 have g0:gs[0]? =some (xs,ys):=by rw[hgs];rfl
 have gj:∀ j  i  b,is[j]? =some i->bs[j]? =some b->gs[j+1]? =some ((σ.bx i).getD [],b):=by
  intro j i b h1 h2;exact Qg
 generalize ae:ownG gs=ok at*;generalize af:mF gs=vk at*;let Q:Nat->Nat:=λk=> @dite _ (∃t,∃l q,t=100000*l+q/\PosG gs l q k) (Classical.propDecidable _) (λh=>h.choose) (λ_=>0)
 have W:∀ {l q k},PosG gs l q k->Q k=100000*l+q:=by
  intro l q k Z;have z:∃t,∃l q,t=100000*l+q/\PosG gs l q k:=⟨_,l,q,rfl,Z⟩;grind [aA3]
 let m:Nat->Nat:=λi=> @dite _ (∃j,is[j]? =some i) (Classical.propDecidable _) (λh=>h.choose) (λ_=>0)
 have aa:∀{j i},is[j]? =some i->m i=j:=by
  intro j i hj;have z:∃j,is[j]? =some i:=⟨j,hj⟩;have e1:m i=z.choose:=by simp[m];rw[dif_pos z]
  rw[e1];have h2:=z.choose_spec;have ah:=(QW.1 hj).1;exact(List.getElem?_inj (QW.1 h2).1 ad).1 (h2.trans hj.symm)
 let e:Gh:={β:=λb=>if 100000<=b then G.β (nthD is (b-100000))else G.β b,av:=G.av,O:=λb=>match G.O b with| .fz=> .fz| .ar k=>if k∈vk then .fz else if k∈ok then .ar (Q k)else .ext| .bx i=>if i∈is/\b=G.β i then .bx (100000+m i)else .ext| .ext=> .ext};have r:∀b,G.O b= .fz->e.O b= .fz:=λb f=>by simp[e];rw[f]
 have R:∀b i,G.O b= .bx i->¬(i∈is/\b=G.β i)->e.O b= .ext:=λb i f hi=>by simp[e];rw[f];simp only;rw[Q9 hi]
 have C:∀b (j:Nat) i,G.O b= .bx i->is[j]? =some i->b=G.β i->e.O b= .bx (100000+j):=λb j i f hj he=>by
  grind
 have L:∀b,G.O b= .ext->e.O b= .ext:=λb f=>by simp[e];rw[f]
 have D:∀b k,G.O b= .ar k->k∈vk->e.O b= .fz:=λb k f H=>by simp[e];rw[f];simp[H]
 have S:∀b k,G.O b= .ar k->k∈ok->e.O b= .ar (Q k):=λb k f H=>by
  grind
 have ag:∀b k,G.O b= .ar k->k∉vk->k∉ok->e.O b= .ext:=λb k f h1 h2=>by simp[e];rw[f];simp[h1,h2]
 have J:∀b i,nth is (b-100000)=some i->100000<=b->e.β b=G.β i:=by
  intro b i h1 h2;simp[e];rw[QU h2];unfold nthD;rw[h1]
 have s:∀ j  i,is[j]? =some i->e.β (100000+j)=G.β i:=by
  intro j i hj;refine J _ i ?_ Aa;grind [uN]
 have n:∀b,(e.O b= .fz/\(G.O b= .fz\/∃k∈vk,G.O b= .ar k))\/(∃k∈ok,G.O b= .ar k/\∃t,e.O b= .ar t)\/(∃(j:Nat) (i:Nat),is[j]? =some i/\(G.O b= .bx i/\b=G.β i)/\e.O b= .bx (100000+j))\/e.O b= .ext:=by
  intro b;cases Y:G.O b with
  |ext=>exact .inr (.inr (.inr (L b Y)))
  |fz=>exact .inl ⟨r b Y, .inl rfl⟩
  |bx i=>
   by_cases hi:i∈is/\b=G.β i;let⟨j,hj⟩:=RF hi.1;exact .inr (.inr (.inl ⟨j,i,hj,⟨rfl,hi.2⟩,C b j i Y hj hi.2⟩));exact .inr (.inr (.inr (R b i Y hi)))
  |ar k=>
   grind
 have ac:Keep w w G e:=⟨r,λ_ _=>rfl⟩
 have u:∀(j:Nat) i,is[j]? =some i->∃cs c t,σ.bx i=some cs/\w.heap[G.β i]? =some (.cells c t (0,0))/\RvL w G c.toList cs/\G.O (G.β i)= .bx i:=by
  intro j i hj;exact OT
 have E:∀ l q  g  v  x y ,gs[l]? =some g->g.1[q]? =some x->g.2[q]? =some y->Rv w G v x->x.ok σ.hasB σ.hasA->RbB T w e is.length (100000*l+q) v y:=by
  intro l q g v x y F B I hv N;refine(U l g F).2 q x y B I e _ v ac J hv N (λhl k H b f=>?_) (λhl k H b f=>?_);exact D b k f (by rw[<-af];exact aS8.2 ⟨l,g,F,nP.2 ⟨q,x,y,B,I,hl,H⟩⟩);have Z:PosG gs l q k:=⟨g,F,x,y,B,I,hl,H⟩;rw[S b k f (by rw[<-ae];exact aP0.2 ⟨l,q,Z⟩),W Z]
 have M:BxOk T w e bs:=by
  intro j b f;have hj:j<is.length:=by rw[hil];exact(QW.1 f).1
  have hi:=QX hj;let⟨cs,c,t,q1,q2,q3,q4⟩:=u j _ hi;have F:=gj j _ b hi f;have A:=(U _ _ F).1;rw[q1]at F A;simp[U9]at F A;refine⟨?_,c,t,?_,?_,?_⟩;rw[s j _ hi];exact C _ j _ q4 hi rfl;rw[s j _ hi];exact q2;rw[<-A,<-q3.len];simp;intro q v y hv I;have hq:q<cs.length:=by rw[A];exact(QW.1 I).1
  have B:=QX hq;have X:c.toList[q]? =some v:=BH;refine⟨q3.one v (QZ X),?_⟩;rw[<-hil];exact E (j+1) q _ v _ y F B I (q3.rel q v _ X B) (aH.1 (inv.wfB _ cs q1) _ (QZ B))
 refine⟨e,n,λb f=>?_,s,M,λj v x y B I hv N=>?_⟩
 ·rcases f with f|⟨k,H,f⟩
  ·exact r b f
  ·exact D b k f H
 ·have:=E 0 j (xs,ys) v x y g0 B I hv N
  rwa [Nat.mul_zero,SX,hil]at this
set_option maxHeartbeats 1600000 in
def bO8(inv:Inv T Φ σ a w G){us:List Value}(br:us.length=xs.length)(hrel:∀(i:Nat) v x,us[i]? =some v->xs[i]? =some x->Rv w G v x/\x.ok σ.hasB σ.hasA) lend
 {gs:Grp}(hgs:gs=(xs,ys)::eU σ.bx bs is)(ag:GiveS T σ w G is gs)
 (bo:(ownG gs).Nodup)(az:∀k∈ownG gs,k∉mF gs)(bp:is.Nodup)(hil:is.length=bs.length)(hisb:∀i∈is,∃cs,σ.bx i=some cs)(M:SpecG T P f ys bs A X):
 Calls P f us.toArray w λe U=>∃v D E,e= .returned v/\X v us.toArray U D/\BxOk T U D A/\Inv T Φ (σ.apps (cond lend [] (aV σ (mF gs))++aX σ (ownG gs)++oM σ.bx is)) a U E/\
  (∀t b,D.O b= .ar t->E.O b= .ext/\Φ.mine b/\b<U.heap.size)/\(lend=false->Keep U U D E)/\(∀ j i,is[j]? =some i->E.β i=D.β (100000+j))/\
  (∀k,(σ.apps (cond lend [] (aV σ (mF gs))++aX σ (ownG gs)++oM σ.bx is)).ar k=if k∈ownG gs then(σ.ar k).map bJ2 else if lend=false/\k∈mF gs then(σ.ar k).map frzE else σ.ar k)/\E.av=G.av:=by
 let⟨bm,hlens,M⟩:=M;let⟨Gc,n,am,ad,ay,a0⟩:=giveout inv hgs ag bo az bp hil hisb;have hbl:=DT;have g0:gs[0]? =some (xs,ys):=by rw[hgs];rfl
 have gj:∀ j  i  b,is[j]? =some i->bs[j]? =some b->gs[j+1]? =some ((σ.bx i).getD [],b):=by
  intro j i b h1 h2;exact Qg
 generalize bu:ownG gs=ok at*;generalize bv:mF gs=vk at*;have al:=λb hb=>am b (.inl hb)
 have a6:∀b k,G.O b= .ar k->k∉vk->k∉ok->Gc.O b= .ext:=λb k hb h1 h2=>by
  grind
 have a5:∀b i,G.O b= .bx i->¬(i∈is/\b=G.β i)->Gc.O b= .ext:=λb i hb hi=>by
  have W:=λj=> @QZ _ is j i;grind
 have L:=inv.tag;have a4:∀b,Gc.O b≠ .ext->b<w.heap.size:=λb hb=>L b Bg
 have af:∀(j:Nat) i,is[j]? =some i->∃cs c t,σ.bx i=some cs/\w.heap[G.β i]? =some (.cells c t (0,0))/\RvL w G c.toList cs/\G.O (G.β i)= .bx i:=by
  intro j i hj;exact OT
 have a8:∀b i,Gc.O b= .bx i->100000<=i/\i<100000+bs.length/\b=Gc.β i:=by
  intro b i' hb;rcases n b with⟨h,_⟩|⟨k,_,_,t,h⟩|⟨j,i,h1,h2,R⟩|h;rw[h]at hb;cases hb;rw[h]at hb;cases hb;rw[R]at hb;cases hb;grind;rw[h]at hb;cases hb
 have ax:∀ j  v y,us.toArray[j]? =some v->ys[j]? =some y->RbB T w Gc bs.length j v y:=by
  intro j v y hv hy;have hj:j<xs.length:=by rw[(ag 0 _ g0).1];exact(QW.1 hy).1
  have Z:=QX hj;let⟨e1,e2⟩:=hrel j v _ BH Z;exact a0 j v _ y Z hy e1 e2
 have bc:=T.lay_mono (λb hb=>⟨al b (inv.F0 b hb),inv.frame b (inv.lay.2 b hb).1 (inv.lay.2 b hb).2⟩) inv.lay.1
 have bt:us.toArray.size=ys.length:=by
  have:=(ag 0 _ g0).1;simp[Tz];exact br.trans this
 refine(M w Gc us.toArray bt a4 a8 ay ax bc).mono ?_;rintro e U ⟨v,D,rfl,bf,ab,ac,_,r1,r2,r4,r5,r6,r7,r8,r9⟩
 have S:∀b,b<w.heap.size->(∀k,G.O b= .ar k->k∉ok)->(∀i,G.O b= .bx i->¬(i∈is/\b=G.β i))->U.heap[b]? =w.heap[b]? :=λb hb hh ah=>r5 b hb (λj hj=>by
  rcases n b with⟨h,_⟩|⟨k,h1,h2,_⟩|⟨j,i,h1,h2,R⟩|h;rw[h]at hj;cases hj;exact hh k h2 h1;rw[R]at hj;cases hj
  rw[h]at hj;cases hj) (λi' F=>by
  rcases n b with⟨h,_⟩|⟨k,_,_,t,h⟩|⟨j,i,h1,h2,R⟩|h;rw[h]at F;cases F;rw[h]at F;cases F;exact ah i h2.1 ⟨QZ h1,h2.2⟩
  rw[h]at F;cases F)
 have Q:∀b,b<w.heap.size->Gc.O b= .ext->D.O b= .ext:=by
  intro b hb hc;cases hO:D.O b with
  |ext=>rfl
  |_=>
   exfalso;rcases r4 b (by rw[hO];simp)with⟨h1,_⟩|h1|⟨j,h1⟩|⟨i,h1,_⟩;rw[hc]at h1;cases h1;omega;rw[hc]at h1;cases h1;rw[hc]at h1;cases h1
 have aw:∀b (j:Nat) i,is[j]? =some i->b=G.β i->D.O b= .bx (100000+j):=by
  intro b j i hj bl;have H:j<A.length:=Es;have:=(ab j A[j] (QX H)).1;rw[ac j (by rw[<-hbl];exact H),ad j i hj,<-bl]at this;exact this
 let C:Nat->Prop:=λb=>lend=true/\∃k∈vk,G.O b= .ar k;let E:Gh:={G with O:=λb=> @ite _ (D.O b= .fz/\¬C b) (Classical.propDecidable _) .fz (match G.O b with| .bx i=> .bx i| .ar k=>if k∈ok then .ext else .ar k|_=> .ext)};have N:∀b,D.O b= .fz->¬C b->E.O b= .fz:=λb h1 h2=>by simp only[E];rw[QU ⟨h1,h2⟩]
 have s:∀b,¬(D.O b= .fz/\¬C b)->E.O b=(match G.O b with| .bx i=> .bx i| .ar k=>if k∈ok then .ext else .ar k|_=> .ext):=λb h=>by simp only[E];rw[Q9 h]
 have au:=λb hb=>N b (r1 b (al b hb)) (by rintro⟨_,k,_,h2⟩;rw[hb]at h2;cases h2)
 have an:∀b i,G.O b= .bx i->E.O b= .bx i:=λb i hb=>by
  have Y:D.O b≠ .fz:=by
   by_cases hi:i∈is/\b=G.β i;let⟨j,hj⟩:=RF hi.1;rw[aw b j i hj hi.2];simp;rw[Q b (L b AV) (a5 b i hb hi)];simp
  rw[s b (λh=>Y h.1),hb]
 have a7:∀b k,G.O b= .ar k->k∉ok->(lend=true\/k∉vk)->E.O b= .ar k:=λb k hb h1 h2=>by
  have Y:¬(D.O b= .fz/\¬C b):=by
   rintro⟨R,h4⟩;by_cases hk:k∈vk;exact h4 ⟨h2.resolve_right λh=>h hk,k,hk,hb⟩;rw[Q b (L b AV) (a6 b k hb hk h1)]at R;cases R
  rw[s b Y,hb];simp[h1]
 have J:Keep w U G E:=⟨au,λb hb=>S b (L b AV) (λk hk=>by rw[hb]at hk;cases hk) (λi hi=>by rw[hb]at hi;cases hi)⟩;let fm:List Mod:=cond lend [] (aV σ vk);let dm:List Mod:=aX σ ok
 have bn:∀m∈fm++dm,∃k en,m= .a k en:=by
  intro m W;rcases Rh.1 W with W|W;cases hl:lend with
  |true=>simp only[fm,hl,TD]at W;cases W
  |false=>simp[fm,hl,Tt]at W;exact bF7 σ vk m W
  exact aS3 σ ok m W
 have aq:∀i,(σ.apps (fm++dm++oM σ.bx is)).bx i=if i∈is then some (((σ.bx i).getD []).map λ_=>V.bot)else σ.bx i:=λi=>by
  rw[dO,bX5,aR5 σ _ bn]
 have ao:∀k,(σ.apps fm).ar k=if lend=false/\k∈vk then(σ.ar k).map frzE else σ.ar k:=by
  intro k;cases hl:lend with
  |true=>simp[fm,hl,TD];simp[St.apps]
  |false=>
   simp only[fm,hl,Tt];rw[cH2 σ σ vk (λ_=> .inl rfl) k];simp
 have aa:∀k,(σ.apps (fm++dm++oM σ.bx is)).ar k=if k∈ok then(σ.ar k).map bJ2 else if lend=false/\k∈vk then(σ.ar k).map frzE else σ.ar k:=by
  intro k;rw[dO,dI5,dO,bP7 σ (σ.apps fm) ok (λk' a2 hn=>by rw[ao,hn];simp) k,ao]
 have ba:∀k en,σ.ar k=some en->∃ae,(σ.apps (fm++dm++oM σ.bx is)).ar k=some ae/\ae.gen=en.gen:=by
  intro k en r;rw[aa,r];split;exact⟨_,rfl,rfl⟩;exact MG
 have bk:∀k g,σ.hasA k g->(σ.apps (fm++dm++oM σ.bx is)).hasA k g:=λk g ⟨en,h1,h2⟩=>by
  let⟨ae,q1,q2⟩:=ba k en h1;exact⟨ae,q1,Aa⟩
 have bi:Inv T Φ (σ.apps (fm++dm++oM σ.bx is)) a U E:=by
  refine inv.change (vM σ _) J (λ_ _=>rfl) (λ_ _ _=>rfl) (λi hi=>?_) bk ?_ ?_ ?_ ?_ ?_ r6 r7 r8 r9;let⟨x,Z⟩:=hi;unfold St.hasB;rw[aq];split;exact⟨_,rfl⟩;exact⟨x,Z⟩;intro i cs hi;rw[aq]at hi;split at hi;rename_i a1;cases hi;let⟨j,hj⟩:=RF a1;let⟨cs,c0,t0,q1,q2,q3,q4⟩:=af j i hj;have H:j<A.length:=Es;let⟨p1,c,t,p2,p3,p4⟩:=ab j A[j] (QX H);have bh:D.β (100000+j)=G.β i:=by rw[ac j (by rw[<-hbl];exact H),ad j i hj]
  rw[bh]at p2;have bb:j<bs.length:=by rw[<-hbl];exact H
  have bd:A[j].length=cs.length:=by
   have e1:(A.map List.length)[j]? =some A[j].length:=by simp[H]
   rw[hlens]at e1;have e2:(bs.map List.length)[j]? =some bs[j].length:=by simp[bb]
   rw[e2]at e1;have:=(ag _ _ (gj j i bs[j] hj (QX bb))).1;rw[q1]at this;simp[U9]at this;rw[this];exact(UG e1).symm
  refine .inr ⟨⟨c,t,p2,⟨?_,?_,?_⟩,an _ i q4⟩,?_⟩;rw[q1];simp[p3,bd];intro u hu;let⟨q,hq⟩:=RF hu;have bq:q<A[j].length:=by rw[<-p3];simpa using(QW.1 hq).1
  exact(p4 q u _ D7 (QX bq)).1;intro q u x hu Z;rw[RN]at Z;cases hy:((σ.bx i).getD [])[q]? with
  |none=>rw[hy]at Z;cases Z
  |some y=>rw[hy]at Z;simp[Tj,SI]at Z;subst Z;exact .bot u
  refine aH.2 λx Z=>?_;obtain⟨y,_,rfl⟩:=Rn.1 Z;simp[V.ok];rename_i a1;let⟨c,t,q1,q2,q3⟩:=inv.box i cs hi;exact .inl ⟨hi,an _ i q3,S _ (L _ Ip) (λk hk=>by rw[q3]at hk;cases hk) (λi' F=>by rw[q3]at F;cases F;exact λh=>a1 h.1)⟩;intro k en r;rw[aa]at r;by_cases ai:k∈ok;rw[QU ai]at r;cases hs:σ.ar k with
  |none=>rw[hs]at r;cases r
  |some z=>
   rw[hs]at r;simp at r;subst r;exact .inr ⟨trivial,by simp[bJ2,V.okL]⟩
  rw[Q9 ai]at r;have I:∀b,G.O b= .ar k->U.heap[b]? =w.heap[b]? :=λb hb=>S b (L b AV) (λk' a2=>by rw[hb]at a2;cases a2;exact ai) (λi hi=>by rw[hb]at hi;cases hi);by_cases aj:lend=false/\k∈vk;rw[QU aj]at r;cases hs:σ.ar k with
  |none=>rw[hs]at r;cases r
  |some z=>
   rw[hs]at r;simp at r;have hp:=inv.wfA k z hs;have B:=inv.arr k z hs;have a9:=λb hb=>N b (r1 b (am b (.inr ⟨k,aj.2,hb⟩))) (by rintro⟨h1,_⟩;rw[aj.1]at h1;cases h1)
   have own:∀ {ty},gJ T w G k (G.av k z.gen) ty z.l->Rv U E (G.av k z.gen) (.sl z.l):=by
    intro ty be;rcases be with⟨e1,e2⟩|⟨b,cap,cur,e1,e2,e3,e4,e5,e6,e7,e8⟩;rw[e2];exact bA2 e1;let⟨cc,q1,q2⟩:=(e8.here e3).out;rw[e1];refine .slS _ cap z.l _ cc e4 e5 (λ_=>a9 b e2) e7 (λj y hy=>?_) (λj y hy=>(q2 j y hy).aW J (dF hp hy));refine⟨?_,(q1 j y hy).2⟩;rw[<-(q1 j y hy).1];exact UU (by rw[add_block];exact I b e2)
   have bj:Rv w G (G.av k z.gen) (.sl z.l)->Rv U E (G.av k z.gen) (.sl z.l):=λh=>h.aW J AP;subst r;unfold gW at B;unfold frzE;cases ak:z.kind with
   |own=>rw[ak]at B;exact .inr ⟨own B.2,hp⟩
   |ap=>
    rw[ak]at B;refine .inr ⟨?_,hp⟩;rcases B.2 with q|q;exact own q;exact bj q.1.wK
   |frz=>
    rw[ak]at B;refine .inr ⟨?_,hp⟩;simp only;unfold gW;rw[ak];exact bj B
   |dead=>exact .inr ⟨trivial,trivial⟩
  rw[Q9 aj]at r;exact .inl ⟨r,λb hb=>⟨a7 b k hb ai Bg,I b hb⟩⟩;intro b hb;by_cases hc:D.O b= .fz/\¬C b;exact r2 b (by rw[hc.1];simp);rw[s b hc]at hb;have:G.O b≠ .ext:=by intro hO;rw[hO]at hb;exact hb rfl
  have:=L b this;omega;intro b;by_cases hc:D.O b= .fz/\¬C b;rcases r4 b (by rw[hc.1];simp)with⟨h1,_⟩|h1|⟨j,h1⟩|⟨i,_,h2⟩;rcases n b with⟨_,h2|⟨k,h2,R⟩⟩|⟨k,_,_,t,h⟩|⟨j,i,_,_,h⟩|h;exact .inl (by rw[N b hc.1 hc.2,h2]);exact .inr (.inr (inv.mineA b k R));rw[h1]at h;cases h;rw[h1]at h;cases h;rw[h1]at h;cases h;exact .inr (.inr (.inl (Rz inv.size h1)));rcases n b with⟨h,_⟩|⟨k,_,R,_⟩|⟨j,i,_,_,h⟩|h;rw[h1]at h;cases h;exact .inr (.inr (inv.mineA b k R));rw[h1]at h;cases h;rw[h1]at h;cases h;rw[hc.1]at h2;cases h2;rw[s b hc];cases hO:G.O b with
  |ext=>exact .inl rfl
  |fz=>exact .inr (.inl rfl)
  |bx i=>exact .inl rfl
  |ar k=>
   by_cases h1:k∈ok;exact .inr (.inl (by simp[h1]));exact .inl (by simp[h1])
  intro b;rcases Sj b w.heap.size with hb|hb;by_cases hh:∃k∈ok,G.O b= .ar k;let⟨k,_,h2⟩:=hh;exact .inr (inv.mineA b k h2);by_cases ah:∃i∈is,G.O b= .bx i;let⟨i,_,h2⟩:=ah;exact .inr (inv.mineB b i h2);exact .inl (S b hb (λk hk W=>hh ⟨k,W,hk⟩) (λi hi W=>ah ⟨i,W.1,hi⟩));exact .inr (.inl (Rz inv.size hb))
 have a3:∀t b,D.O b= .ar t->E.O b= .ext/\Φ.mine b/\b<U.heap.size:=by
  intro t b hb;have Y:¬(D.O b= .fz/\¬C b):=by rintro⟨h1,_⟩;rw[hb]at h1;cases h1
  have bg:=r2 b AV;rcases r4 b AV with⟨_,h1⟩|h1|⟨j,h1⟩|⟨i,_,h1⟩;rw[hb]at h1;cases h1;have hO:=inv.ext_size h1;exact⟨by rw[s b Y,hO], .inl (Rz inv.size h1),bg⟩;rcases n b with⟨h,_⟩|⟨k,h2,R,_⟩|⟨j,i,_,_,h⟩|h;rw[h1]at h;cases h;exact⟨by rw[s b Y,R];simp[h2],inv.mineA b k R,bg⟩;rw[h1]at h;cases h;rw[h1]at h;cases h;rw[hb]at h1;cases h1
 refine⟨v,D,E,rfl,bf,ab,bi,a3,λhl=>⟨λb hb=>N b hb (by rintro⟨h1,_⟩;rw[hl]at h1;cases h1),λ_ _=>rfl⟩,λj i hj=>?_,aa,rfl⟩;have H:j<bs.length:=EO;rw[ac j H,ad j i hj]
end
section
variable{T:Tab}{P:Program}{Φ:Fr}{σ:St}{a:Act}{w w':World}{G G':Gh}{K:VK}{o:Oper}{d:Nat}
def Lent(n i:Nat):Prop:=100000<=i/\i<100000+n
theorem zL ar is ok y r x xr N K:oJ ar is ok (y::r) (x::xr) N K=(match y with
        | .own e l=>xO ar ok N .own e l x λv m=>oJ ar is ok r xr (N+1000) λvs b=>K (v::vs) (m::b)
        | .ap e l=>xO ar ok N .ap e l x λv m=>oJ ar is ok r xr (N+1000) λvs b=>K (v::vs) (m::b)
        |y=>force (y.ren (renF is)) λv=>oJ ar is ok r xr (N+1000) λvs b=>K (v::vs) b):=rfl
def aT3{K}(h:xO ar ok N b e l x K):
 (∃k g en,x= .arr k g/\k∈ok/\ar k=some en/\K (.arr k (en.gen+1)) (.a k ⟨en.gen+1,b,e,l⟩))\/(ar N=none/\K (.arr N 0) (.a N ⟨0,b,e,l⟩)):=by
 unfold xO at h;grind [pM]
theorem bJ5{K b}(f:∀v m,K v m->b v m)(h:xO ar ok N c e l x K):xO ar ok N c e l x b:=by
 unfold xO at*;split at h<;>grind
def cQ2:∀ {ys xs} {N} {K b},(∀vs e,K vs e->b vs e)->oJ ar is ok ys xs N K->oJ ar is ok ys xs N b:=by
 intro ys;induction ys with
 |nil=>
  intro xs N K b c h;cases xs with
  |nil=>exact c _ _ h
  |cons x r=>exact(h:False).elim
 |cons y r f=>
  intro xs N K b c h;cases xs with
  |nil=>exact(h:False).elim
  |cons x xr=>
   rw[zL]at h⊢;split at h;grind [bJ5];exact bJ5 (λv m h=>f (λvs e=>c _ _) h) h;rw[force_eq]at h⊢;exact f (λvs e=>c _ _) h
set_option maxHeartbeats 1600000 in
def aU0{σ0:St}:∀ ys f  N t  σ  G (us:List Value)  K,
 Inv T Φ σ a w G->us.length=ys.length->(∀q,q<ys.length->σ0.ar (N+1000*q)=none->σ.ar (N+1000*q)=none)->
 (∀(q:Nat) k g en,f[q]? =some (.arr k g)->k∈ok->σ0.ar k=some en->∀g',σ.hasA k g'->g'<=en.gen)->
 (∀(q q':Nat) k g g',f[q]? =some (.arr k g)->f[q']? =some (.arr k g')->k∈ok->q=q')->
 (∀ i u y,us[i]? =some u->ys[i]? =some y->RbB T w Gx n (t+i) u y)->Keep w w Gx G->(∀i,Lent n i->G.β (renF is i)=Gx.β i/\σ.hasB (renF is i))->
 (∀i b,i<ys.length->Gx.O b= .ar (t+i)->G.O b= .ext/\Φ.mine b/\b<w.heap.size)->oJ σ0.ar is ok ys f N K->
 ∃vs c G',K vs c/\Inv T Φ (σ.apps c) a w G'/\vs.length=ys.length/\(∀(i:Nat) u v,us[i]? =some u->vs[i]? =some v->Rv w G' u v/\v.ok (σ.apps c).hasB (σ.apps c).hasA)/\
  G'.β=G.β/\(∀k g,σ.hasA k g->G'.av k g=G.av k g)/\(∀b,G.O b≠ .ext->G'.O b=G.O b)/\(∀b,(∀i,i<ys.length->Gx.O b≠ .ar (t+i))->G'.O b=G.O b)/\
  (∀k g,σ.hasA k g->(σ.apps c).hasA k g)/\(σ.apps c).bx=σ.bx/\
  (∀k,(∀q,q<ys.length->σ0.ar (N+1000*q)=none->k≠N+1000*q)->(∀(q:Nat) g,f[q]? =some (.arr k g)->k∉ok)->(σ.apps c).ar k=σ.ar k):=by
 intro ys;induction ys with
 |nil=>
  intro f N t σ G us K inv hl _ _ _ _ _ _ _ h;have az:=TQ BG;subst az;cases f with
  |nil=>exact⟨[],[],G,h,inv,rfl,λi u v hu=>by simp at hu,rfl,λ_ _ _=>rfl,λ_ _=>rfl,λ_ _=>rfl,λ_ _ h=>h,rfl,λ_ _ _=>rfl⟩
  |cons x r=>exact(h:False).elim
 |cons y r ih=>
  intro f N t σ G us K inv hl j ae C ad J L s h;cases f with
  |nil=>exact(h:False).elim
  |cons x xr=>
  cases us with
  |nil=>simp at hl
  |cons u ur=>
   have ak:=BG
   have W:=λi u y hu hy=>by
    have:=ad (i+1) u y Bv Dj;rwa [show t+(i+1)=t+1+i from Aa]at this
   have X:∀ k g  z  e  l ,(z= .own\/z= .ap)->(∀g',σ.hasA k g'->g'<g)->(∀q,q<r.length->σ0.ar (N+1000+1000*q)=none->k≠N+1000+1000*q)->
    (∀(q:Nat) k' g' en,xr[q]? =some (.arr k' g')->k'∈ok->σ0.ar k'=some en->k'≠k)->
    ((∃g0,x= .arr k g0/\k∈ok)\/(k=N/\σ0.ar N=none))->e<T.n e->bM l->
    (gJ T w Gx t u e l\/(z= .ap/\Rv w Gx u (.cap l)/\∀x∈l,x.cells.length=(T.row e).size))->
    (oJ σ0.ar is ok r xr (N+1000) λvs c=>K (.arr k g::vs) (.a k ⟨g,z,e,l⟩::c))->
    ∃vs c G',K vs c/\Inv T Φ (σ.apps c) a w G'/\vs.length=(y::r).length/\(∀(i:Nat) F v,(u::ur)[i]? =some F->vs[i]? =some v->Rv w G' F v/\v.ok (σ.apps c).hasB (σ.apps c).hasA)/\
     G'.β=G.β/\(∀k g,σ.hasA k g->G'.av k g=G.av k g)/\(∀b,G.O b≠ .ext->G'.O b=G.O b)/\(∀b,(∀i,i< (y::r).length->Gx.O b≠ .ar (t+i))->G'.O b=G.O b)/\
     (∀k g,σ.hasA k g->(σ.apps c).hasA k g)/\(σ.apps c).bx=σ.bx/\
     (∀k,(∀q,q< (y::r).length->σ0.ar (N+1000*q)=none->k≠N+1000*q)->(∀(q:Nat) g,(x::xr)[q]? =some (.arr k g)->k∉ok)->(σ.apps c).ar k=σ.ar k):=by
    intro k g z e l R hno ay an S he hp D B;let⟨G1,ao,a1,a2,a3,a4,a5⟩:=inv.eV5 (k:=k) (gen:=g) hno R he hp D J (λb hb=>s 0 b Ad FP);have ag:∀k' g',σ.hasA k' g'->(σ.apps [.a k ⟨g,z,e,l⟩]).hasA k' g':=λk' g' hh=>KI;have H:∀k',k'≠k->(σ.apps [.a k ⟨g,z,e,l⟩]).ar k'=σ.ar k':=λk' e1=>upd_ne _ _ e1;have ah:∀b,G.O b≠ .ext->G1.O b=G.O b:=λb hb=>a3 b (λau=>hb (s 0 b Ad (by simpa using au)).1);have aj:Keep w w G G1:=⟨λb hb=>(ah b AV).trans hb,λ_ _=>rfl⟩
    let⟨vs,c,G',b1,b2,b3,b4,b5,b6,b7,b8,b9,M,Y⟩:=ih xr (N+1000) (t+1) (σ.apps [.a k ⟨g,z,e,l⟩]) G1 ur _ ao ak
     (λq hq hn=>by
      rw[H _ (Ne.symm (ay q hq hn))];have:=j (q+1) AY BF;rwa [show N+1000*(q+1)=N+1000+1000*q from Aa]at this)
     (λq k' g' en hq E hen aq hh=>by
      have ai:=an q k' g' en hq E hen;let⟨Z,Q,U⟩:=hh;rw[H _ ai]at Q;exact ae (q+1) k' g' en D7 E hen aq ⟨Z,Q,U⟩)
     (λq q' k' g1 g2 hq ac E=>by
      have:=C (q+1) (q'+1) k' g1 g2 D7 (by simpa using ac) E
      omega)
     W ⟨λb hb=>aj.fz b (J.fz b hb),λ_ _=>rfl⟩
     (λi hi=>⟨by rw[a4];exact(L i hi).1,(L i hi).2⟩)
     (λi b hi hb=>by
      have A:Gx.O b= .ar (t+(i+1)):=Gn;have:=s (i+1) b AY A;refine⟨?_,this.2⟩;rw[a3 b (by rw[hb];intro e;have:=Tag.ar.inj e;omega)]
      exact this.1) B
    refine⟨_,_,G',b1,b2,by simp[b3],?_,b5.trans a4,λk' g' hh=>(b6 k' g' (ag k' g' hh)).trans (a5 k' g' hh),λb hb=>?_,λb hb=>?_,λk' g' hh=>b9 k' g' (ag k' g' hh),M,λk' Q U=>?_⟩
    ·intro i F v hu hv
     cases i with
     |zero=>
      simp at hu hv;subst hu;subst hv;have hA:(σ.apps [.a k ⟨g,z,e,l⟩]).hasA k g:=⟨_,upd_same _ _ _,Rf _⟩;have e1:=(b6 k g hA).trans a1;refine⟨?_,by simp[V.ok];exact b9 k g hA⟩;rw[<-e1];exact .arr k g (by rw[e1];exact a2)
     |succ i=>exact b4 i F v Bv BH
    ·have:=ah b hb
     rw[b7 b (by rw[this];exact hb)];exact this
    ·rw[b8 b (λi hi=>DC),a3 b (by simpa using hb 0 (by simp))]
    ·have ab:k'≠k:=by
      rintro rfl;rcases S with⟨g0,hx,E⟩|⟨rfl,hn⟩
      ·exact U 0 g0 BI E
      ·exact Q 0 Ad Ig Ad
     have:=Y k' (λq hq hn=>by
      have:=Q (q+1) AY BF;rwa [show N+1000*(q+1)=N+1000+1000*q from Aa]at this) (λq g hq=>U (q+1) g D7)
     exact this.trans (H k' ab)
   have af:linear y=false->(oJ σ0.ar is ok r xr (N+1000) λvs c=>K (y.ren (renF is)::vs) c)->
    ∃vs c G',K vs c/\Inv T Φ (σ.apps c) a w G'/\vs.length=(y::r).length/\(∀(i:Nat) F v,(u::ur)[i]? =some F->vs[i]? =some v->Rv w G' F v/\v.ok (σ.apps c).hasB (σ.apps c).hasA)/\
     G'.β=G.β/\(∀k g,σ.hasA k g->G'.av k g=G.av k g)/\(∀b,G.O b≠ .ext->G'.O b=G.O b)/\(∀b,(∀i,i< (y::r).length->Gx.O b≠ .ar (t+i))->G'.O b=G.O b)/\
     (∀k g,σ.hasA k g->(σ.apps c).hasA k g)/\(σ.apps c).bx=σ.bx/\
     (∀k,(∀q,q< (y::r).length->σ0.ar (N+1000*q)=none->k≠N+1000*q)->(∀(q:Nat) g,(x::xr)[q]? =some (.arr k g)->k∉ok)->(σ.apps c).ar k=σ.ar k):=by
    intro al B
    let⟨vs,c,G',b1,b2,b3,b4,b5,b6,b7,b8,b9,M,Y⟩:=ih xr (N+1000) (t+1) σ G ur _ inv ak
     (λq hq hn=>by
      have:=j (q+1) AY BF;rwa [show N+1000*(q+1)=N+1000+1000*q from Aa]at this)
     (λq k' g' en hq E hen=>ae (q+1) k' g' en D7 E hen)
     (λq q' k' g1 g2 hq ac E=>by
      have:=C (q+1) (q'+1) k' g1 g2 D7 (by simpa using ac) E
      omega)
     W J L
     (λi b hi hb=>by
      have A:Gx.O b= .ar (t+(i+1)):=Gn;exact s (i+1) b AY A) B
    refine⟨_,_,G',b1,b2,by simp[b3],?_,b5,b6,b7,λb hb=>b8 b (λi hi=>DC),b9,M,λk' Q U=>?_⟩
    ·intro i F v hu hv
     cases i with
     |zero=>
      simp at hu hv;subst hu;subst hv;have hb:=ad 0 u y rfl rfl
      have A:y.ok (Lent n) (λ_ _=>False)/\Rv w Gx u y:=by
       unfold RbB at hb;split at hb;simp[linear]at al;simp[linear]at al;exact hb
      have ax:Keep w w Gx G':=⟨λb hb=>(b7 b (by rw[J.fz b hb];simp)).trans (J.fz b hb),λ_ _=>rfl⟩;refine⟨A.2.ren ax A.1 (λi hi=>by rw[b5];exact(L i hi).1),?_⟩;refine V.ok.imp (λ_ h=>h) (λ_ _ h=>h.elim) _ (V.ok.ren (p':=(σ.apps c).hasB) (λi hi=>?_) y A.1);unfold St.hasB;rw[M];exact(L i hi).2
     |succ i=>exact b4 i F v Bv BH
    ·exact Y k' (λq hq hn=>by
      have:=Q (q+1) AY BF;rwa [show N+1000*(q+1)=N+1000+1000*q from Aa]at this) (λq g hq=>U (q+1) g D7)
   have aa:=ad 0 u y rfl rfl;rw[TW]at aa
   have go:∀ z  e  l ,(z= .own\/z= .ap)->e<T.n e->bM l->(gJ T w Gx t u e l\/(z= .ap/\Rv w Gx u (.cap l)/\∀x∈l,x.cells.length=(T.row e).size))->
    (xO σ0.ar ok N z e l x λv m=>oJ σ0.ar is ok r xr (N+1000) λvs c=>K (v::vs) (m::c))->
    ∃vs c G',K vs c/\Inv T Φ (σ.apps c) a w G'/\vs.length=(y::r).length/\(∀(i:Nat) F v,(u::ur)[i]? =some F->vs[i]? =some v->Rv w G' F v/\v.ok (σ.apps c).hasB (σ.apps c).hasA)/\
     G'.β=G.β/\(∀k g,σ.hasA k g->G'.av k g=G.av k g)/\(∀b,G.O b≠ .ext->G'.O b=G.O b)/\(∀b,(∀i,i< (y::r).length->Gx.O b≠ .ar (t+i))->G'.O b=G.O b)/\
     (∀k g,σ.hasA k g->(σ.apps c).hasA k g)/\(σ.apps c).bx=σ.bx/\
     (∀k,(∀q,q< (y::r).length->σ0.ar (N+1000*q)=none->k≠N+1000*q)->(∀(q:Nat) g,(x::xr)[q]? =some (.arr k g)->k∉ok)->(σ.apps c).ar k=σ.ar k):=by
    intro z e l R he hp D hA;rcases aT3 hA with⟨k,g,en,hx,E,hen,hK⟩|⟨hn,hK⟩
    ·refine X k (en.gen+1) z e l R (λg' aw=>Nat.lt_succ_of_le (ae 0 k g en BI E hen g' aw)) (λq _ hn e=>EH) (λq k' g' Z hq ab I e=>?_) (.inl ⟨g,hx,E⟩) he hp D hK
     subst e;have:=C 0 (q+1) k' g g' BI D7 ab;omega
    ·have am:=j 0 Ad Ig
     rw[Nat.mul_zero,TW]at am;exact X N 0 z e l R (zK am 0) (λq _ _=>Aa) (λq k' g' Z _ _ I e=>by rw[e,hn]at I;cases I) (.inr ⟨rfl,hn⟩) he hp D hK
   rw[zL]at h;split at h;rename_i e l;let⟨q1,q2,q3⟩:=aa;exact go .own e l (.inl rfl) q1 q2 (.inl q3) h;rename_i e l;let⟨q1,q2,q3⟩:=aa;exact go .ap e l (.inr rfl) q1 q2 (q3.imp id (λh=>⟨rfl,h⟩)) h;rename_i Q U;rw[force_eq]at h;exact af (oW Q U) h
theorem aJ1 bx ar c ok b r i e N K:aB3 bx ar c ok (b::r) (i::e) N K=(match bx i with
        |some cs=>oJ ar c ok b cs N λvs f=>aB3 bx ar c ok r e (N+1000000) λns=>K (appR f (.b i vs::ns))
        |none=>False):=rfl
set_option maxHeartbeats 1600000 in
def cI1{σ0:St}(ad:∀k∈ok,σ0.ar k≠none):∀ bs  z  N t  σ  G  K,
 Inv T Φ σ a w G->
 (∀ j b i,bs[j]? =some b->z[j]? =some i->∃cs old c ty,σ0.bx i=some cs/\σ.bx i=some old/\w.heap[G.β i]? =some (.cells c ty (0,0))/\c.size=b.length/\b.length<1000/\
  ∀ q v y,c[q]? =some v->b[q]? =some y->v.oneCell'=true/\RbB T w Gx n (t+100000*j+q) v y)->
 (∀ j b,bs[j]? =some b->∀q,q<b.length->σ0.ar (N+1000000*j+1000*q)=none->σ.ar (N+1000000*j+1000*q)=none)->
 (∀(j:Nat) i cs (q:Nat) k g en,z[j]? =some i->σ0.bx i=some cs->cs[q]? =some (.arr k g)->k∈ok->σ0.ar k=some en->∀B,σ.hasA k B->B<=en.gen)->
 (∀(j j':Nat) i m cs l (q F:Nat) k g B,z[j]? =some i->z[j']? =some m->σ0.bx i=some cs->σ0.bx m=some l->cs[q]? =some (.arr k g)->l[F]? =some (.arr k B)->k∈ok->j=j'/\q=F)->
 Keep w w Gx G->(∀i,Lent n i->G.β (renF is i)=Gx.β i/\σ.hasB (renF is i))->
 (∀ j b,bs[j]? =some b->∀q f,q<b.length->Gx.O f= .ar (t+100000*j+q)->G.O f= .ext/\Φ.mine f/\f<w.heap.size)->aB3 σ0.bx σ0.ar is ok bs z N K->
 ∃ns G',K ns/\Inv T Φ (σ.apps ns) a w G'/\G'.β=G.β/\(∀k g,σ.hasA k g->G'.av k g=G.av k g)/\(∀b,G.O b≠ .ext->G'.O b=G.O b)/\
  (∀k g,σ.hasA k g->(σ.apps ns).hasA k g)/\(∀i,σ.hasB i->(σ.apps ns).hasB i)/\∀i∈z,∃cs,Mod.b i cs∈ns:=by
 intro bs;induction bs with
 |nil=>
  intro z N t σ G K inv _ _ _ _ _ _ _ h;cases z with
  |nil=>exact⟨[],G,h,inv,rfl,λ_ _ _=>rfl,λ_ _=>rfl,λ_ _ h=>h,λ_ h=>h,λi hi=>by cases hi⟩
  |cons i r=>exact(h:False).elim
 |cons b r ih=>
  intro z N t σ G K inv ab x ae s M S C h;cases z with
  |nil=>exact(h:False).elim
  |cons i z=>
   rw[aJ1]at h;let⟨cs,old,c,ty,x1,x2,x3,x4,ax,x5⟩:=ab 0 b i rfl rfl;rw[x1]at h;simp only at h;have hlen:c.toList.length=b.length:=by simpa using x4
   let⟨vs,I,G1,b1,b2,b3,b4,b5,b6,b7,b8,b9,Z,aa⟩:=aU0 (Gx:=Gx) (σ0:=σ0) (is:=is) (ok:=ok) (n:=n) b cs N t σ G c.toList _ inv hlen
    (λq hq hn=>by
     have:=x 0 b rfl q hq Ig;simpa using this)
    (λq k g en hq A hen=>ae 0 i cs q k g en rfl x1 hq A hen)
    (λq F k g B hq D A=>(s 0 0 i i cs cs q F k g B rfl rfl x1 x1 hq D A).2)
    (λq u y hu hy=>by
     have:=(x5 q u y Bv hy).2;simpa using this) M S
    (λq f hq hb=>C 0 b rfl q f hq FP) h
   have ac:=aH.2 λv hv=>by
    obtain⟨q,hq⟩:=RF hv;have Q:q<c.toList.length:=by rw[hlen,<-b3];exact(QW.1 hq).1
    exact(b4 q _ v (QX Q) hq).2
   have ao:RvL w G1 c.toList vs:=⟨by rw[hlen,b3],λu hu=>by
    let⟨q,hq⟩:=RF hu;have Q:q<b.length:=EI;exact(x5 q u _ D7 (QX Q)).1,λq u v hu hv=>(b4 q u v hu hv).1⟩
   have af:=b2.eJ4 (i:=i) (old:=old) (by rw[Z];exact x2) (c:=c) (t:=ty) ao ac (by rw[b5];exact x3) (λ_ _=>rfl) rfl rfl rfl rfl
   have J:∀m,σ.hasB m->((σ.apps I).apps [.b i vs]).hasB m:=λm ⟨y,hy⟩=>by
    by_cases e:m=i;subst e;exact⟨vs,upd_same _ _ _⟩;exact⟨y,by show upd (σ.apps I).bx i _ m=_;rw[upd_ne _ _ e,Z];exact hy⟩
   have H:((σ.apps I).apps [.b i vs]).ar=(σ.apps I).ar:=rfl
   have L:∀(j:Nat) m l (q:Nat) k g,z[j]? =some m->σ0.bx m=some l->l[q]? =some (.arr k g)->k∈ok->∀(q0:Nat) g0,cs[q0]? =some (.arr k g0)->False:=by
    intro j m l q k g X U hq A q0 g0 R;have:=(s 0 (j+1) i m cs l q0 q k g0 g rfl (by simpa using X) x1 U R hq A).1;omega
   let⟨ns,G',d1,d2,d3,d4,d5,d6,d7,d8⟩:=ih z (N+1000000) (t+100000) ((σ.apps I).apps [.b i vs]) G1 _ af
    (λj Y m hb hi=>by
     let⟨l,ag,c',aq,y1,y2,y3,y4,au,y5⟩:=ab (j+1) Y m FP Ih;let⟨ah,h2⟩:=J m ⟨ag,y2⟩;refine⟨l,ah,c',aq,y1,h2,by rw[b5];exact y3,y4,au,λq v y hv hy=>?_⟩
     have:=y5 q v y hv hy;rwa [show t+100000*(j+1)+q=t+100000+100000*j+q from Aa]at this)
    (λj Y hb q hq hn=>by
     rw[H,aa _ (λF D _ e=>Aa) (λF B D A=>ad _ A hn)];have:=x (j+1) Y FP q hq (by rw[show N+1000000*(j+1)+1000*q=N+1000000+1000000*j+1000*q by omega];exact hn)
     rwa [show N+1000000*(j+1)+1000*q=N+1000000+1000000*j+1000*q from Aa]at this)
    (λj m l q k g en X U hq A hen B W=>by
     refine ae (j+1) m l q k g en (by simpa using X) U hq A hen B ?_
     let⟨ak,h1,h2⟩:=W;rw[H,aa k (λF _ hn e=>EH) (λq0 g0 R _=>L j m l q k g X U hq A q0 g0 R)]at h1;exact⟨ak,h1,h2⟩)
    (λj j' i1 i2 ai aj q F k g B X an U am hq D A=>by
     have:=s (j+1) (j'+1) i1 i2 ai aj q F k g B (by simpa using X) (by simpa using an) U am hq D A
     omega)
    ⟨λf hb=>(b7 f (by rw[M.fz f hb];simp)).trans (M.fz f hb),λ_ _=>rfl⟩
    (λm E=>⟨by rw[b5];exact(S m E).1,J _ (S m E).2⟩)
    (λj Y hb q f hq hO=>by
     have al:Gx.O f= .ar (t+100000*(j+1)+q):=by rw[show t+100000*(j+1)+q=t+100000+100000*j+q by omega];exact hO
     have:=C (j+1) Y FP q f hq al;refine⟨?_,this.2⟩;rw[b8 f (λi0 aw=>Gy)];exact this.1) b1
   refine⟨_,G',d1,?_,d3.trans b5,λk g W=>(d4 k g (b9 k g W)).trans (b6 k g W),λf hb=>?_,λk g W=>?_,λm E=>?_,?_⟩;rw[bT,dO,show(Mod.b i vs::ns)=[Mod.b i vs] ++ns from rfl,dO];exact d2;grind;rw[bT,dO,show(Mod.b i vs::ns)=[Mod.b i vs] ++ns from rfl,dO];exact d6 k g (b9 k g W);rw[bT,dO,show(Mod.b i vs::ns)=[Mod.b i vs] ++ns from rfl,dO];exact d7 m (J m E);grind [bT]
end
section
variable{T:Tab}{P:Program}{Φ:Fr}{σ:St}{a:Act}{w w':World}{G G':Gh}{K:VK}{o:Oper}{d:Nat}
def call_core1(inv:Inv T Φ σ a w G){B:List Value}(J:B.length=xs.length)(hrel:∀(i:Nat) v x,B[i]? =some v->xs[i]? =some x->Rv w G v x/\x.ok σ.hasB σ.hasA)(j:iQ T σ.ar ys xs)(c:sO n lend xs ys r=true)
 (m:dY8 T P f ys r X):
 Calls P f B.toArray w λe q=>∃v s t,e= .returned v/\(Rr T q s v r/\X v B.toArray q s)/\Inv T Φ (σ.apps (cond lend [] (aV σ (bK ys xs))++aX σ (bD ys xs))) a q t/\
  (∀M b,s.O b= .ar M->t.O b= .ext/\Φ.mine b/\b<q.heap.size)/\(lend=false->Keep q q s t)/\
  (∀k,(σ.apps (cond lend [] (aV σ (bK ys xs))++aX σ (bD ys xs))).ar k=if k∈bD ys xs then(σ.ar k).map bJ2 else if lend=false/\k∈bK ys xs then(σ.ar k).map frzE else σ.ar k)/\
  (∀k en,σ.ar k=some en->∃u,(σ.apps (cond lend [] (aV σ (bK ys xs))++aX σ (bD ys xs))).ar k=some u/\u.gen=en.gen)/\t.av=G.av:=by
 simp[sO,iR,Ru]at c;let⟨⟨⟨⟨I,E⟩,_⟩,_⟩,_⟩:=c;have C:ownG [(xs,ys)] =bD ys xs:=by rw[bT5];exact Rq _
 have L:mF [(xs,ys)] =bK ys xs:=by rw[cX2];exact Rq _
 refine(bO8 inv J hrel lend (gs:=[(xs,ys)]) rfl (GiveS.ofL inv j) (by rw[C];exact uU.1 I) (by rw[C,L];grind [dY,pM]) List.nodup_nil rfl (λi hi=>by cases hi) (dY8.g.1 m)).mono ?_;rw[C,L,show oM σ.bx [] =[]from rfl,Rq];rintro e q ⟨v,s,t,rfl,z,_,A,l,H,_,y,D⟩;refine⟨v,s,t,rfl,z,A,l,H,y,λk en F=>?_,D⟩;rw[y,F];split
 ·exact⟨_,rfl,rfl⟩
 ·exact MG
set_option maxHeartbeats 800000 in
def eJ8(inv:Inv T Φ σ a w G){D:List Value}(O:D.length=xs.length)(hrel:∀(i:Nat) v x,D[i]? =some v->xs[i]? =some x->Rv w G v x/\x.ok σ.hasB σ.hasA)(J:iQ T σ.ar ys xs)(t:sO Q lend xs ys r=true)(N:Spec T P f ys r)
 (m:zZ σ d (reuse σ (bD ys xs)) r λv n=>K v (appR (cond lend [] (aV σ (bK ys xs))) (appR (aX σ (bD ys xs)) n))):
 Calls P f D.toArray w λe w'=>∃v',e= .returned v'/\∃v n G',K v n/\Inv T Φ (σ.apps n) a w' G'/\Rv w' G' v' v/\v.ok (σ.apps n).hasB (σ.apps n).hasA:=by
 refine(call_core1 inv O hrel J t N).mono ?_;rintro e R ⟨v,S,G2,rfl,⟨Z,_⟩,aa,L,X,U,ag,ai⟩;refine⟨v,rfl,?_⟩;simp only[sO,iR,Ru]at t;let⟨⟨⟨⟨ak,ab⟩,aj⟩,l⟩,_⟩:=t;generalize al:bD ys xs=ok at*;generalize am:bK ys xs=vk at*;let I:List Mod:=cond lend [] (aV σ vk);let H:List Mod:=aX σ ok;have B:∀z,0<=z->σ.ar (d+1000*z)=none->(σ.apps (I++H)).ar (d+1000*z)=none:=λz _ hn=>by rw[U,hn];simp
 have af:∀k g,reuse σ ok=some (k,g)->(∀g',(σ.apps (I++H)).hasA k g'->g'<g)/\∀z,σ.ar (d+1000*z)=none->k≠d+1000*z:=by
  intro k g ae;obtain⟨en,hen,rfl⟩:=cZ3 ae;refine⟨λg' ⟨ah,q1,q2⟩=>?_,λz hn e=>EH⟩;grind
 have hms:∀n,σ.apps (appR (cond lend [] (aV σ vk)) (appR (aX σ ok) n))=(σ.apps (I++H)).apps n:=λn=>by
  rw[bT,bT,<-Tn,dO]
 have q:∀ rs  (D:List Value),D.length=rs.length->(∀ i  u y,D[i]? =some u->rs[i]? =some y->Rb T R S i u y)->(lend=true->∀y∈rs,sS y=true)->∀ K' ,uF σ d rs 0 (reuse σ ok) K'->
  ∃vs n G',K' vs n/\Inv T Φ ((σ.apps (I++H)).apps n) a R G'/\vs.length=rs.length/\(∀(i:Nat) u v,D[i]? =some u->vs[i]? =some v->Rv R G' u v/\v.ok ((σ.apps (I++H)).apps n).hasB ((σ.apps (I++H)).apps n).hasA):=by
  intro rs D O hrb W K' Y
  let⟨vs,n,G',E,F,b3,b4,_⟩:=cO6 (Gx:=S) (σ0:=σ) rs 0 (reuse σ ok) (σ.apps (I++H)) G2 D K' aa B af O
   (λi u y hu hy _=>G9)
   (λi u y hu hy C=>by
    have hb:=hrb i u y hu hy
    have A:y.pure/\Rv R S u y:=by
     unfold Rb at hb;grind [Rb,linear]
    refine⟨?_,A.1⟩;cases s:lend with
    |true=>exact bG6 (W s y (QZ hy)) A.2
    |false=>exact A.2.aW (X s) A.1)
   (λ⟨y,hy,C⟩=>by
    cases s:lend with
    |true=>rw[cA5 (W s y hy)]at C;cases C
    |false=>exact X s)
   (λz b _ hb=>L z b hb) Y
  exact⟨vs,n,G',E,F,b3,b4⟩
 unfold zZ at m;split at m
 ·rename_i rs
  obtain⟨vs',e1,e2,eo,e3⟩:∃vs,v= .agg vs/\vs.size=rs.length/\(∀c∈vs,c.oneCell'=true)/\∀ j  u y,vs[j]? =some u->rs[j]? =some y->Rb T R S j u y:=Z
  let⟨vs,n,G',E,F,b3,b4⟩:=q rs vs'.toList Hf (λi u y hu hy=>e3 i u y Bv hy)
   (λC y hy=>by rw[C]at l;exact Bool.noConfusion (show false=true from l)) _ m
  refine⟨.agg vs,_,G',E,by rw[hms];exact F,?_,?_⟩
  ·rw[e1]
   refine .agg vs' vs (by rw[e2,b3]) eo λi c x hc hx=>(b4 i c x D8 hx).1
  ·exact JZ
 ·rename_i rs ac
  obtain⟨vs',e1,e2,e3⟩:∃vs,v= .tuple vs/\vs.size=rs.length/\∀ j  u y,vs[j]? =some u->rs[j]? =some y->Rb T R S j u y:=by
   grind [Rr]
  let⟨vs,n,G',E,F,b3,b4⟩:=q rs vs'.toList Hf (λi u y hu hy=>e3 i u y Bv hy)
   (λC y hy=>by rw[C]at l;exact dY.1 (l:allR sS rs=true) y hy) _ m
  refine⟨.tup vs,_,G',E,by rw[hms];exact F,?_,?_⟩
  ·exact MH
  ·exact JZ
 ·rename_i ac ad
  have M:Rb T R S 0 v r:=by
   grind [Rr]
  let⟨vs,n,G',E,F,b3,b4⟩:=q [r] [v] rfl (λi u y hu hy=>by
   cases i with
   |zero=>simp at hu hy;subst hu;subst hy;exact M
   |succ i=>simp at hu)
   (λC y hy=>by
    simp at hy;subst hy;rw[C]at l;have hf:=l;exact aW9 hf ad) _ m
  match vs,b3 with
  | [x],_=>
    let⟨q1,q2⟩:=b4 0 v x rfl rfl;exact⟨x,_,G',E,by rw[hms];exact F,q1,by rw[hms];exact q2⟩
set_option maxHeartbeats 800000 in
def eO2(inv:Inv T Φ σ a w G){E:List Value}(ac:E.length=xs.length)(hrel:∀(i:Nat) v x,E[i]? =some v->xs[i]? =some x->Rv w G v x/\x.ok σ.hasB σ.hasA)(B:iQ T σ.ar ys xs)(W:sO false false xs ys r=true)(J:bE5 T P f ys r j e L)
 (Q:ys[j]? =some (.own e l))(z:xs[j]? =some (.arr k g))(t:aH7 r=true)
 (hk:K r (appR (aV σ (bK ys xs)) (appR (aX σ (bD ys xs)) [.a k ⟨g, .own,e,L⟩]))):
 Calls P f E.toArray w λe w'=>∃v',e= .returned v'/\∃v ms G',K v ms/\Inv T Φ (σ.apps ms) a w' G'/\Rv w' G' v' v/\v.ok (σ.apps ms).hasB (σ.apps ms).hasA:=by
 refine(call_core1 (lend:=false) inv ac hrel B W J).mono ?_;let⟨au,hg⟩:=qM B;have aj:=hg j _ _ z Q;have hj:j<E.length:=by rw[ac];exact(QW.1 z).1
 have Z:∃en,σ.ar k=some en/\en.gen=g/\en.kind= .own/\en.ty=e/\en.l=l:=by
  have h':(match σ.ar k with
   |some en=>en.gen=g/\en.kind= .own/\en.ty=e/\en.l=l
   |none=>False):=aj
  grind
 let⟨en,X,ai,al,a1,a0⟩:=Z
 have S:E.toArray.getD j undef=G.av k g:=by
  have h1:=(hrel j E[j] _ (QX hj) z).1;have h3:E.toArray.getD j undef=E[j] :=by simp[hj]
  rw[h3,h1.oQ]
 have he:e<T.n e:=by
  have h1:=inv.arr k en X;grind [gW]
 have az:k∈bD ys xs:=oZ.2 ⟨j,_,_,z,Q,rfl,by simp[jQ]⟩;rintro ex M ⟨v,N,A,rfl,⟨s,ab,tg,aa⟩,D,aq,an,R,C,ah⟩;have am:=an rfl;rw[S]at aa;simp[Tt]at D R C;generalize aw:σ.apps (aV σ (bK ys xs)++aX σ (bD ys xs))=ae at*
 have I:σ.apps (appR (aV σ (bK ys xs)) (appR (aX σ (bD ys xs)) [.a k ⟨g, .own,e,L⟩]))=ae.apps [.a k ⟨g, .own,e,L⟩] :=by
  grind [bT,Tn,dO]
 let O':Nat->Tag:=λb=>match N.O b with| .ar i=>if i=tg then .ar k else A.O b|_=>A.O b
 have af:∀b,N.O b≠ .ar tg->O' b=A.O b:=by
  grind
 have ag:∀b,N.O b= .ar tg->O' b= .ar k:=by
  grind
 have ak:Keep M M N {A with O:=O'}:=⟨λb hb=>(af b AV).trans (am.fz b hb),λ_ _=>rfl⟩
 have ad:Inv T Φ (ae.apps [.a k ⟨g, .own,e,L⟩]) a M {A with av:=A.av,O:=O'}:=by
  refine D.zU (w':=M) (k:=k) (en:=⟨g, .own,e,L⟩) (av':=A.av) (O':=O') ?_ (λ_ _ _=>rfl) ab ?_ ?_ ?_ (λ_ _ _=>rfl) (Rf _) rfl rfl rfl;rintro g' ⟨ax,q1,q2⟩;let⟨ay,q3,q4⟩:=C k en X;rw[q3]at q1;cases q1;show g'<=g;omega;unfold gW;refine⟨he,?_⟩;show gJ T M {A with av:=A.av,O:=O'} k (A.av k g) e L;have U:A.av k g=G.av k g:=by rw[ah]
  rw[U];rcases aa with h|⟨b,cap,cur,h1,h2,h3,h4,h5,h6,h7,h8⟩;exact .inl h;refine .inr ⟨b,cap,cur,h1,ag b h2,h3,h4,h5,h6,h7,h8.keep ak (p:=λ_=>False) (q:=λ_ _=>False) ?_ (λ_ h=>h.elim) (λ_ _ h=>h.elim)⟩;refine aH.2 λy Q=>?_;let⟨i,hi⟩:=RF Q;exact dF ab hi;grind;grind
 refine⟨v,rfl,r,_,_,hk,by rw[I];exact ad,?_,?_⟩
 ·unfold Rr at s
  split at s
  ·exact Bool.noConfusion (show false=true from t)
  ·rename_i rs _
   let⟨vs,e1,e2,e3⟩:=s;rw[e1];have Y:=t;refine .tup vs rs e2 λi c x hc z=>?_;have H:=dY.1 Y x (QZ z);have hb:=e3 i c x hc z
   have F:x.pure/\Rv M N c x:=by
    unfold Rb at hb;grind [sS]
   exact bG6 H F.2
  ·rename_i ao
   have H:=aW9 t ao
   have F:r.pure/\Rv M N v r:=by
    unfold Rb at s;grind [sS]
   exact bG6 H F.2
 ·have m:∀{x},sS x=true->∀p q,x.ok p q:=by
   intro x z p q;cases x with
   |lit u=>simp[V.ok]
   |agg cs=>
    simp[V.ok];refine aH.2 λy Q=>?_;have:=dY.1 (z:allR bR6 cs=true) y Q;cases y with
    |lit u=>simp[V.ok]
    |_=>simp[bR6]at this
   |_=>simp[sS]at z
  cases r with
  |tup rs=>
   simp[V.ok];refine aH.2 λx z=>m (dY.1 (t:allR sS rs=true) x z) _ _
  |lit u=>simp[V.ok]
  |agg cs=>exact m (x:= .agg cs) t _ _
  |_=>simp[aH7]at t
def Mod.isB(i:Nat):Mod->Prop| .b j _=>j=i| .a _ _=>False
def Mod.isA(k:Nat):Mod->Prop| .b _ _=>False| .a j _=>j=k
theorem jJ c i:∀σ:St,(∀m∈c,¬m.isB i)->(σ.apps c).bx i=σ.bx i:=by
 induction c with
 |nil=>intro σ _;rfl
 |cons m r g=>
  intro σ h;have:σ.apps (m::r)=(m.app σ).apps r:=rfl;rw[this,g _ (λm f=>h m (RZ _ f))];have:=h m (SQ ..);cases m with
  |b j cs=>exact upd_ne _ _ (λe=>this e.symm)
  |a j en=>rfl
theorem lW c i:∀σ:St,(∀m∈c,¬m.isA i)->(σ.apps c).ar i=σ.ar i:=by
 induction c with
 |nil=>intro σ _;rfl
 |cons m r g=>
  intro σ h;have:σ.apps (m::r)=(m.app σ).apps r:=rfl;rw[this,g _ (λm f=>h m (RZ _ f))];have:=h m (SQ ..);cases m with
  |a j cs=>exact upd_ne _ _ (λe=>this e.symm)
  |b j en=>rfl
theorem aI2 f i:∀σ c:St,((∃m∈f,m.isB i)\/σ.bx i=c.bx i)->(σ.apps f).bx i=(c.apps f).bx i:=by
 induction f with
 |nil=>intro σ c h;exact h.resolve_left (λ⟨m,hm,_⟩=>Ii)
 |cons m r l=>
  intro σ c h;apply l;rcases h with⟨k,e,g⟩|h;rcases Rl.1 e with rfl|e;right;cases k with
  |b j cs=>cases g;show upd _ _ _ _=upd _ _ _ _;rw[upd_same,upd_same]
  |a j en=>exact g.elim
  exact .inl ⟨k,e,g⟩;right;cases m with
  |b j cs=>
   exact QN
  |a j en=>exact h
theorem aI9 f i:∀σ c:St,((∃m∈f,m.isA i)\/σ.ar i=c.ar i)->(σ.apps f).ar i=(c.apps f).ar i:=by
 induction f with
 |nil=>intro σ c h;exact h.resolve_left (λ⟨m,hm,_⟩=>Ii)
 |cons m r l=>
  intro σ c h;apply l;rcases h with⟨k,e,g⟩|h;rcases Rl.1 e with rfl|e;right;cases k with
  |a j cs=>cases g;show upd _ _ _ _=upd _ _ _ _;rw[upd_same,upd_same]
  |b j en=>exact g.elim
  exact .inl ⟨k,e,g⟩;right;cases m with
  |a j cs=>
   exact QN
  |b j en=>exact h
def aN6 f i:∀σ:St,((∃m∈f,m.isB i)\/σ.bx i≠none)->(σ.apps f).bx i≠none:=by
 induction f with
 |nil=>intro σ h;exact h.resolve_left (λ⟨m,hm,_⟩=>Ii)
 |cons m r k=>
  intro σ h;apply k;rcases h with⟨g,c,e⟩|h;rcases Rl.1 c with rfl|c;right;cases g with
  |b j cs=>cases e;show upd _ _ _ _≠none;rw[upd_same];simp
  |a j en=>exact e.elim
  exact .inl ⟨g,c,e⟩;right;cases m with
  |b j cs=>
   show upd _ _ _ _≠none;grind [upd_same,upd_ne]
  |a j en=>exact h
def aO2 g i:∀σ:St,((∃m∈g,m.isA i)\/σ.ar i≠none)->(σ.apps g).ar i≠none:=by
 induction g with
 |nil=>intro σ h;exact h.resolve_left (λ⟨m,hm,_⟩=>Ii)
 |cons m r l=>
  intro σ h;apply l;rcases h with⟨k,c,f⟩|h;rcases Rl.1 c with rfl|c;right;cases k with
  |a j cs=>cases f;show upd _ _ _ _≠none;rw[upd_same];simp
  |b j en=>exact f.elim
  exact .inl ⟨k,c,f⟩;right;cases m with
  |a j cs=>
   show upd _ _ _ _≠none;by_cases e:i=j;subst e;rw[upd_same];simp;rw[upd_ne _ _ e];exact h
  |b j en=>exact h
def dZ3(h:aP8 T ar is x y)(i:linear y=true)(c:k∈jQ x):∃en,ar k=some en:=by
 have key:wU T ar x y->∃en,ar k=some en:=by
  intro h;cases y with
  |own e l=>
   cases x with
   |arr f g=>
    have b:k=f:=by simpa [jQ]using c
    subst b;have h':(match ar k with|some en=>en.gen=g/\en.kind= .own/\en.ty=e/\en.l=l|none=>False):=h;exact PW
   |agg cs=>exact(h:False).elim
   |_=>simp[jQ]at c
  |ap e l=>
   cases x with
   |arr f g=>
    have b:k=f:=by simpa [jQ]using c
    subst b;have h':(match ar k with|some en=>en.gen=g/\(en.kind= .own\/en.kind= .ap)/\en.ty=e/\en.l=l|none=>False):=h;exact PW
   |agg cs=>exact(h:False).elim
   |_=>simp[jQ]at c
  |_=>simp[linear]at i
 cases y with
 |own e l=>exact key h
 |ap e l=>exact key h
 |_=>simp[linear]at i
set_option maxHeartbeats 1600000 in
def fB8(inv:Inv T Φ σ a w G){us:List Value}(ak:us.length=xs.length)(hrel:∀(i:Nat) v x,us[i]? =some v->xs[i]? =some x->Rv w G v x/\x.ok σ.hasB σ.hasA)
 (R:xM T σ.ar is ((xs,ys)::eU σ.bx bs is))(aq:zA σ.bx ((xs,ys)::eU σ.bx bs is) is bs r=true)(H:aU2 T P f ys bs r D)
 (C:aX2 σ.bx σ.ar is (ownG ((xs,ys)::eU σ.bx bs is)) d r D λv s=>K v (appR (aV σ (mF ((xs,ys)::eU σ.bx bs is))) (appR (aX σ (ownG ((xs,ys)::eU σ.bx bs is))) s))):
 Calls P f us.toArray w λe w'=>∃v',e= .returned v'/\∃v s G',K v s/\Inv T Φ (σ.apps s) a w' G'/\Rv w' G' v' v/\v.ok (σ.apps s).hasB (σ.apps s).hasA:=by
 let⟨aw,Q,ba,hil,ab,a3,bh,aj⟩:=aL0 aq;refine(bO8 inv ak hrel false rfl (.ofB inv R) aw Q ba hil ab H).mono ?_;have hlens:=H.2.1;clear H;have af:=DT;have au:=λγ g hg=>aB1 (aJ8 R γ g hg)
 have gj:∀ j  i  b,is[j]? =some i->bs[j]? =some b->((xs,ys)::eU σ.bx bs is)[j+1]? =some ((σ.bx i).getD [],b):=by
  intro j i b Y N;rw[SE];exact(aR3 hil j _).2 ⟨i,b,Y,N,rfl⟩
 generalize bf:(xs,ys)::eU σ.bx bs is=gs at*
 have ax:∀k∈ownG gs,σ.ar k≠none:=by
  intro k C hn;let⟨γ,q,g,Y,x,y,N,h3,h4,h5⟩:=aP0.1 C;let⟨en,hen⟩:=dZ3 ((au γ g Y).2 q x y N h3) h4 h5;rw[hen]at hn;cases hn
 have W:∀ j i  cs (q k g:Nat),is[j]? =some i->σ.bx i=some cs->cs[q]? =some (.arr k g)->k∈ownG gs->PosG gs (j+1) q k:=by
  intro j i cs q k g hj hc hq C;have a7:j<bs.length:=EO;have hg:=gj j i bs[j] hj (QX a7);rw[hc]at hg;simp[U9]at hg;have hlen:=(au _ _ hg).1;have az:q<bs[j].length:=EI;refine⟨_,hg,_,bs[j][q],hq,QX az,?_,by simp[jQ]⟩;cases hl:linear bs[j][q]with
  |true=>rfl
  |false=>
   exfalso;exact Q k C (aS8.2 ⟨j+1,_,hg,nP.2 ⟨q,_,_,hq,QX az,hl,by simp[jQ]⟩⟩)
 rintro e w1 ⟨v,G1,G2,rfl,M,ao,ae,U,S,ac,L,be⟩;replace S:=S rfl;simp only[Tt,true_and]at ae L;refine⟨v,rfl,?_⟩;generalize bc:ownG gs=ok at*;generalize bj:mF gs=vk at*;generalize ad:σ.apps (aV σ vk++aX σ ok++oM σ.bx is)=A at*
 have aa:∀i,A.bx i=if i∈is then some (((σ.bx i).getD []).map λ_=>V.bot)else σ.bx i:=λi=>by
  rw[<-ad,dO,bX5,aR5 σ _ (λm hm=>by
   rcases Rh.1 hm with hm|hm;exact bF7 σ vk m hm
   exact aS3 σ ok m hm)]
 have O:∀k en,k∈ok->σ.ar k=some en->∀J,A.hasA k J->J<=en.gen:=by
  rintro k en C hen J ⟨bd,q1,q2⟩;rw[L,QU C,hen]at q1;cases q1;exact q2
 have ah:∀B,Lent bs.length B->∃(j i:Nat),B=100000+j/\is[j]? =some i/\renF is B=i:=by
  rintro B ⟨Y,N⟩;have hj:B-100000<is.length:=Aa;refine⟨B-100000,is[B-100000],Aa,QX hj,?_⟩;show nthD is (B-100000)=_;unfold nthD;rw[uN,QX hj]
 have X:∀B,Lent bs.length B->G2.β (renF is B)=G1.β B/\A.hasB (renF is B):=by
  intro B Z;obtain⟨j,i,rfl,N,h3⟩:=ah B Z;rw[h3];refine⟨ac j i N,?_⟩;unfold St.hasB;rw[aa,QU (QZ N)];exact⟨_,rfl⟩
 have ag:is=[]->D=[] :=λh=>by
  have e1:D.length=0:=by rw[af,<-hil,h];rfl
  exact RS.1 e1
 have I:∀ rs F ,((∀(q k g:Nat),F[q]? =some (.arr k g)->False)\/(is=[]/\F.length=1))->∀(us:List Value),us.length=rs.length->rs.length<1000->(∀ i  u y,us[i]? =some u->rs[i]? =some y->RbB T w1 G1 bs.length i u y)->∀(K':List V->List Mod->Prop),
  (oJ σ.ar is ok rs F d λvs s=>aB3 σ.bx σ.ar is ok D is (d+1000000) λns=>K' vs (appR s ns))->
  ∃vs s G',K' vs s/\Inv T Φ (A.apps s) a w1 G'/\vs.length=rs.length/\(∀(i:Nat) u v,us[i]? =some u->vs[i]? =some v->Rv w1 G' u v/\v.ok (A.apps s).hasB (A.apps s).hasA)/\∀i∈is,∃cs,Mod.b i cs∈s:=by
  intro rs F l us ak bi hrb K' a0
  let⟨vs,s,G3,b1,b2,b3,b4,b5,b6,b7,b8,b9,al,am⟩:=aU0 (Gx:=G1) (σ0:=σ) (is:=is) (ok:=ok) (n:=bs.length) rs F d 0 A G2 us _ ae ak
   (λq _ hn=>by rw[L,hn];simp)
   (λq k g en hq C hen J hh=>O k en C hen J hh) (λq q' k g J hq E _=>by
    rcases l with l|⟨_,l⟩;exact(l q k g hq).elim;have Y:=(QW.1 hq).1
    have N:=(QW.1 E).1;omega)
   (λi u y hu hy=>G9) S X (λi b _ hb=>U _ b hb) a0
  let⟨ns,G',d1,d2,d3,d4,d5,d6,d7,d8⟩:=cI1 (Gx:=G1) (σ0:=σ) (is:=is) (ok:=ok) (n:=bs.length) ax D is (d+1000000) 100000 (A.apps s) G3 _ b2
   (λj b i hb hi=>by
    let⟨cs,a5⟩:=ab i (QZ hi);let⟨p1,c,t,p2,p3,p4⟩:=ao j b hb;have hj:j<bs.length:=by rw[<-af];exact(QW.1 hb).1
    refine⟨cs,_,c,t,a5,by rw[al,aa,QU (QZ hi)],by rw[b5,ac j i hi];exact p2,p3,?_,λq v y hv hy=>?_⟩;have e1:(D.map List.length)[j]? =some b.length:=by rw[RN,hb];rfl
    rw[hlens]at e1;grind;have:=p4 q v y hv hy
    rw[af]at this;rwa [show 100000*(j+1)+q=100000+100000*j+q from Aa]at this)
   (λj b hb q hq hn=>by
    rcases l with l|⟨l,_⟩;rw[am _ (λq' E _ e=>Aa) (λq' J E=>(l q' _ J E).elim),L,hn];simp
    rw[ag l]at hb;cases hb)
   (λj i cs q k g en hj hc hq C hen J hh=>by
    let⟨a2,Y,N⟩:=hh;rcases l with l|⟨l,_⟩;rw[am k (λq' _ hn e=>EH) (λq' J E=>(l q' _ J E).elim)]at Y;exact O k en C hen J ⟨a2,Y,N⟩
    rw[l]at hj;cases hj)
   (λj j' i B cs a1 q q' k g J hj a6 hc a4 hq E C=>by
    have:=aA3 (by rw[bc];exact aw) (W j i cs q k g hj hc hq C) (W j' B a1 q' k J a6 a4 E C)
    omega)
   ⟨λb hb=>(b7 b (by rw[S.fz b hb];simp)).trans (S.fz b hb),λ_ _=>rfl⟩
   (λB Z=>⟨by rw[b5];exact(X B Z).1,by let⟨x,hx⟩:=(X B Z).2;exact⟨x,by rw[al];exact hx⟩⟩)
   (λj b hb q an hq hO=>by
    have:=U _ an hO;refine⟨?_,this.2⟩;rw[b8 an (λi0 bg=>Gy)];exact this.1) b1
  refine⟨vs,appR s ns,G',d1,by rw[bT,dO];exact d2,b3,λi u v hu hv=>?_,λi hi=>?_⟩
  ·let⟨q1,q2⟩:=b4 i u v hu hv
   rw[bT,dO];have a8:Keep w1 w1 G3 G':=⟨λb hb=>(d5 b AV).trans hb,λ_ _=>rfl⟩;exact⟨q1.keep a8 q2 (λi _=>by rw[d3]) d4,V.ok.imp d7 d6 _ q2⟩
  ·grind [bT]
 have z:∀s,(∀i∈is,∃cs,Mod.b i cs∈s)->σ.apps (appR (aV σ vk) (appR (aX σ ok) s))=A.apps s:=by
  intro s a9;have e1:σ.apps (appR (aV σ vk) (appR (aX σ ok) s))=(σ.apps (aV σ vk++aX σ ok)).apps s:=by rw[bT,bT,<-Tn];exact dO _ _ _
  have e2:=ad.symm.trans (dO _ _ _);rw[e1,e2];generalize σ.apps (aV σ vk++aX σ ok)=τ;have Y:(τ.apps s).env=((τ.apps (oM σ.bx is)).apps s).env:=by rw[vM,vM,vM]
  have N:(τ.apps s).bx=((τ.apps (oM σ.bx is)).apps s).bx:=by
   funext i;refine aI2 s i _ _ ?_;by_cases hi:i∈is;let⟨cs,h⟩:=a9 i hi;exact .inl ⟨_,h,rfl⟩;rw[bX5,Q9 hi];exact .inr rfl
  have h3:(τ.apps s).ar=((τ.apps (oM σ.bx is)).apps s).ar:=by
   funext k;grind [aI9,dI5]
  generalize τ.apps s=s1 at*;generalize (τ.apps (oM σ.bx is)).apps s=s2 at*;cases s1;cases s2<;>grind
 unfold aX2 at C;split at C
 ·rename_i rs
  obtain⟨vs',e1,e2,e3⟩:∃vs,v= .tuple vs/\vs.size=rs.length/\∀ j  u y,vs[j]? =some u->rs[j]? =some y->RbB T w1 G1 bs.length j u y:=M;rw[dU]at C
  let⟨vs,s,G',b1,b2,b3,b4,b5⟩:=I rs (rs.map λ_=> .bot) (.inl (λq k g hq=>by
   rw[RN]at hq;cases hy:rs[q]? with
   |none=>rw[hy]at hq;cases hq
   |some y=>rw[hy]at hq;simp at hq)) vs'.toList Hf (aj rs rfl) (λi u y hu hy=>e3 i u y Bv hy) (λvs s=>K (.tup vs) (appR (aV σ vk) (appR (aX σ ok) s))) C
  refine⟨.tup vs,_,G',b1,by rw[z s b5];exact b2,?_,?_⟩
  ·exact MH
  ·rw[z s b5]
   simp[V.ok];refine aH.2 λx hx=>?_;let⟨i,hi⟩:=RF hx;have av:i<vs'.toList.length:=BD;exact(b4 i _ x (QX av) hi).2
 ·rename_i bb
  have ai:RbB T w1 G1 bs.length 0 v r:=by
   unfold RrB at M;split at M;exact(bb _ rfl).elim;exact M
  have ay:(∀(q k g:Nat),[dB5 is ok][q]? =some (.arr k g)->False)\/(is=[]/\ [dB5 is ok].length=1):=by
   cases is with
   |nil=>exact .inr ⟨rfl,rfl⟩
   |cons i ir=>
    refine .inl λq k g hq=>?_;cases q with
    |zero=>cases hq
    |succ q=>simp at hq
  let⟨vs,s,G',b1,b2,b3,b4,b5⟩:=I [r] [dB5 is ok] ay [v] rfl Ad (λi u y hu hy=>by
   cases i with
   |zero=>simp at hu hy;subst hu;subst hy;exact ai
   |succ i=>simp at hu) (λvs s=>match vs with|v::_=>K v (appR (aV σ vk) (appR (aX σ ok) s))| [] =>False) (by
   refine cQ2 (λvs s h=>?_) C;cases vs with
   |nil=>exact(h:False).elim
   |cons v r=>exact h)
  match vs,b3 with
  | [x],_=>
    let⟨q1,q2⟩:=b4 0 v x rfl rfl;exact⟨x,_,G',b1,by rw[z s b5];exact b2,q1,by rw[z s b5];exact q2⟩
def cP8(inv:Inv T Φ σ a w G){t:List Value}(c:t.length=xs.length)(hrel:∀(i:Nat) v x,t[i]? =some v->xs[i]? =some x->Rv w G v x/\x.ok σ.hasB σ.hasA)(h:kY T P m σ d f xs K):
 callable P f=true/\Calls P f t.toArray w λe w'=>∃v',e= .returned v'/\∃v s G',K v s/\Inv T Φ (σ.apps s) a w' G'/\Rv w' G' v' v/\v.ok (σ.apps s).hasB (σ.apps s).hasA:=by
 rcases h.out with⟨ys,r,lend,n,p,b,q⟩|⟨_,ys,r,j,k,g,e,l,B,n,p,b,q,y,z,A⟩|⟨ys,is,bs,r,u,_,n,p,b,q⟩
 ·exact⟨b.1,eJ8 inv c hrel n p b q⟩
 ·exact⟨b.1,eO2 inv c hrel n p b q y z A⟩
 ·exact⟨b.1,fB8 inv c hrel n p b q⟩
def bF2(inv:Inv T Φ σ a w G)(as:List Operand)(h:kY T P b σ d f (as.map σ.ev) K):
 callable P f=true/\Calls P f (as.map a.eval).toArray w λe w'=>∃v',e= .returned v'/\∃v c G',K v c/\Inv T Φ (σ.apps c) a w' G'/\Rv w' G' v' v/\v.ok (σ.apps c).hasB (σ.apps c).hasA:=by
 refine cP8 inv Ad (λi v x hv k=>?_) h
 have hi:i<as.length:=by
  grind
 have g:v=a.eval as[i] :=by simpa [hi]using hv.symm
 have j:x=σ.ev as[i] :=by simpa [hi]using k.symm
 rw[g,j];exact inv.ev as[i]
end
theorem dE7 i cs xs:(V.agg xs).frz i cs= .agg (xs.map (V.frz i cs)):=by
 have h:∀l,(V.agg l).frz i cs= .agg (l.map (V.frz i cs)):=by
  intro l;induction l with
  |nil=>rfl
  |cons x r c=>
   have b:(V.agg (x::r)).frz i cs=(match(V.agg r).frz i cs with| .agg l=> .agg (x.frz i cs::l)|y=>y):=rfl;rw[b,c];rfl
 exact h xs
theorem dB9 i cs xs:(V.tup xs).frz i cs= .tup (xs.map (V.frz i cs)):=by
 have h:∀l,(V.tup l).frz i cs= .tup (l.map (V.frz i cs)):=by
  intro l;induction l with
  |nil=>rfl
  |cons x r c=>
   have b:(V.tup (x::r)).frz i cs=(match(V.tup r).frz i cs with| .tup l=> .tup (x.frz i cs::l)|y=>y):=rfl;rw[b,c];rfl
 exact h xs
theorem eK0 i cs g xs:(V.fn g xs).frz i cs= .fn g (xs.map (V.frz i cs)):=by
 have h:∀l,(V.fn g l).frz i cs= .fn g (l.map (V.frz i cs)):=by
  intro l;induction l with
  |nil=>rfl
  |cons x r c=>
   have b:(V.fn g (x::r)).frz i cs=(match(V.fn g r).frz i cs with| .fn g l=> .fn g (x.frz i cs::l)|y=>y):=rfl;rw[b,c];rfl
 exact h xs
theorem zG i off cs:(V.box i off).frz i cs= .fp (cs.drop off):=by
 show cond (Nat.beq i i) (V.fp (jX cs off)) (.box i off)=_;rw[Nat.beq_refl,TD,lQ]
def bI5 cs(h:j≠i):(V.box j off).frz i cs= .box j off:=by
 show cond (Nat.beq j i) (V.fp (jX cs off)) (.box j off)=_;have:Nat.beq j i=false:=FX;rw[this,Tt]
section
variable{T:Tab}{P:Program}{Φ:Fr}{σ:St}{a:Act}{w:World}{G:Gh}
mutual
theorem V.ok.frz{p p':Nat->Prop}{q:Nat->Nat->Prop}{i:Nat}{cs:List V}(c:∀j,p j->j≠i->p' j)(b:bM cs):(x:V)->x.ok p q->(x.frz i cs).ok p' q
 | .bot,_=>Hy
 | .lit u,_=>G8
 | .agg l,h=>by
   rw[dE7];simp only[V.ok]at h⊢;exact V.okL.frz c b l h
 | .tup l,h=>by
   rw[dB9];simp only[V.ok]at h⊢;exact V.okL.frz c b l h
 | .sl l,h=>EJ
 | .cap l,h=>EF
 | .own e l,h=>Eo
 | .ap e l,h=>Ez
 | .box j off,h=>by
   by_cases e:j=i;grind [zG,aH,RQ,V.ok];rw[bI5 cs e];simp only[V.ok]at h⊢;exact c j h e
 | .arr k g,h=>Ep
 | .fp l,h=>EK
 | .ae k g z i' o,h=>DL
 | .fn g l,h=>by
   rw[eK0];simp only[V.ok]at h⊢;exact V.okL.frz c b l h
theorem V.okL.frz{p p':Nat->Prop}{q:Nat->Nat->Prop}{i:Nat}{cs:List V}(c:∀j,p j->j≠i->p' j)(b:bM cs):(l:List V)->V.okL p q l->V.okL p' q (l.map (V.frz i cs))
 | [],_=>by simp only[SY,V.okL]
 |x::r,h=>by
  simp only[Rt,V.okL]at h⊢;exact⟨V.ok.frz c b x h.1,V.okL.frz c b r h.2⟩
end
def Rv.frz(J:w.heap[G.β i]? =some (.cells c t (0,0)))(hc:RvL w G c.toList cs)(D:bM cs)(Q:G.O (G.β i)= .bx i)(h:Rv w G v x):
 ∀ {p} {q},x.ok p q->Rv w {G with O:=upd G.O (G.β i) .fz} v (x.frz i cs):=by
 have f:Keep w w G {G with O:=upd G.O (G.β i) .fz}:=⟨λb F=>by
  show upd G.O _ _ b=_;by_cases e:b=G.β i;subst e;rw[upd_same]
  rw[upd_ne _ _ e];exact F,λ_ _=>rfl⟩
 induction h with
 |bot v=>intros;exact .bot v
 |lit u h=>intros;exact .lit u h
 |agg vs xs hl I _ ih=>
  intro p q hok;rw[dE7];refine .agg vs _ BG I λj c x hc hx=>?_;exact PD
 |tup vs xs hl _ ih=>
  intro p q hok;rw[dB9];refine .tup vs _ BG λj c x hc hx=>?_;exact PD
 |slN=>intros;exact .slN
 |slS a c l sz cc z o r A B C _=>
  intro p q hok;exact(Rv.slS a c l sz cc z o r A B C).aW f Bf
 |capN=>intros;exact .capN
 |capS a l sz cc o r A B C _=>
  intro p q hok;exact(Rv.capS a l sz cc o r A B C).aW f Bf
 |box j off=>
  intro p q hok;by_cases e:j=i;subst e;rw[zG];have H:=(RvL.here (n:=c.toList.length) J (by rw[TM];exact hc)).out;let⟨cc,M,N⟩:=H;refine .fp ⟨G.β j,off,none⟩ _ (λk=>cc (off+k)) (λ_=>by show upd G.O _ _ (G.β j)=_;rw[upd_same]) (λk y hy=>?_) (λk y hy=>?_);rw[SA]at hy;have:=M (off+k) y hy;simp_all [rY,SX];rw[SA]at hy;exact(N _ y hy).aW f (aH.1 D y (QZ hy));rw[bI5 cs e];exact Rv.box (G:={G with O:=upd G.O (G.β i) .fz}) j off
 |arr k g h=>
  intro p q hok;exact Rv.arr (G:={G with O:=upd G.O (G.β i) .fz}) k g h
 |fp a l cc z o r _=>
  intro p q hok;exact(Rv.fp a l cc z o r).aW f Bf
 |ae k g sz j off a n c h=>
  intro p q hok;exact Rv.ae (G:={G with O:=upd G.O (G.β i) .fz}) k g sz j off a n c h
 |fn g L d hl _ ih=>
  intro p q hok;rw[eK0];refine .fn g L _ BG λj c x hc hx=>?_;rw[RN]at hx;cases hy:d[j]? with
  |none=>rw[hy]at hx;cases hx
  |some y=>exact JB
 |fb g E d hl _ ih=>
  intro p q hok;rw[eK0];refine .fb g E (d.map (V.frz i cs)) BG λj c x hc hx=>?_;rw[RN]at hx;cases hy:d[j]? with
  |none=>rw[hy]at hx;cases hx
  |some y=>
   rw[hy]at hx;simp[Tj,SI]at hx;subst hx;exact ih j c y hc hy (aH.1 hok.2 y (QZ hy))
 |mp b s m g K es val z o r A B C _=>
  intro p q hok;exact(Rv.mp b s m g K es val z o r A B C).aW f Fq
def bP0(h:frzB i cs bx j=some l):j≠i/\∃c,bx j=some c/\l=c.map (V.frz i cs):=by
 unfold frzB at h;cases b:Nat.beq j i with
 |true=>rw[b]at h;cases h
 |false=>
  grind [Nat.beq_refl,dU]
def dE5(c:j≠i)(h:bx j=some b):frzB i cs bx j=some (b.map (V.frz i cs)):=by
 unfold frzB;have:Nat.beq j i=false:=by rw[<-Ue,TJ];exact c
 rw[this,Tt,h];simp[dU]
def Inv.bV0(inv:Inv T Φ σ a w G)(hi:σ.bx i=some cs)(H:i<100000)(g:bM cs):
 Inv T Φ ⟨λs=>(σ.env s).frz i cs,frzB i cs σ.bx,σ.ar⟩ a w {G with O:=upd G.O (G.β i) .fz}/\Keep w w G {G with O:=upd G.O (G.β i) .fz}:=by
 let⟨c,t,E,C,p⟩:=inv.box i cs hi
 have m:Keep w w G {G with O:=upd G.O (G.β i) .fz}:=⟨λb d=>by
  show upd G.O _ _ b=_;by_cases e:b=G.β i;subst e;rw[upd_same]
  rw[upd_ne _ _ e];exact d,λ_ _=>rfl⟩
 have B:∀j,σ.hasB j->j≠i->St.hasB ⟨λs=>(σ.env s).frz i cs,frzB i cs σ.bx,σ.ar⟩ j:=λj ⟨l,q⟩ z=>⟨_,dE5 z q⟩
 have f:∀b,upd G.O (G.β i) Tag.fz b=G.O b\/(b=G.β i/\upd G.O (G.β i) Tag.fz b= .fz):=λb=>by
  grind [upd_same,upd_ne]
 refine⟨{nd:=inv.nd,kp:=inv.kp,sz:=inv.sz,env:= ?_,wfE:= ?_,box:= ?_,wfB:= ?_,arr:= ?_,wfA:=inv.wfA,tag:= ?_,mineB:= ?_,mineA:= ?_,fzm:= ?_,F0:= ?_,lay:=inv.lay,frame:=inv.frame,size:=inv.size,os:=inv.os,tape:=inv.tape,output:=inv.output,args:=inv.args,argb:=λj b h=>⟨(inv.argb j b h).1,(inv.argb j b h).2.1,_,dE5 (λe=>by have:=(inv.argb j b h).2.1.1;omega) (inv.argb j b h).2.2.choose_spec⟩},m⟩
 ·intro s;exact(inv.env s).frz E C g p (inv.wfE s)
 ·intro s;exact V.ok.frz B g _ (inv.wfE s)
 ·intro j l q
  obtain⟨z,o,r,rfl⟩:=bP0 q;let⟨F,J,I,A,K⟩:=inv.box j o r;refine⟨F,J,I,⟨by simpa using A.len,A.one,λk v x hv n=>?_⟩,?_⟩
  ·rw[RN]at n
   cases u:o[k]? with
   |none=>rw[u]at n;cases n
   |some y=>
    rw[u]at n;simp[Tj,SI]at n;subst n;exact(A.rel k v y hv u).frz E C g p (aH.1 (inv.wfB j o r) y (QZ u))
  ·grind
 ·intro j l q
  obtain⟨z,o,r,rfl⟩:=bP0 q;exact V.okL.frz B g o (inv.wfB j o r)
 ·intro k en D
  exact(inv.arr k en D).keep m (inv.wfA k en D) rfl (λb d=>⟨by
   show upd G.O _ _ b=_;rw[upd_ne _ _ (λe=>by rw[e,p]at d;cases d)];exact d,rfl⟩)
 ·intro b d
  rcases f b with h|⟨h,_⟩
  ·exact inv.tag b (by rw[<-h];exact d)
  ·subst h;exact inv.tag _ (by rw[p];simp)
 ·intro b j d
  rcases f b with h|⟨_,h⟩
  ·exact inv.mineB b j (h▸d)
  ·simp_all
 ·intro b k d
  rcases f b with h|⟨_,h⟩
  ·exact inv.mineA b k (h▸d)
  ·simp_all
 ·intro b d
  rcases f b with h|⟨h,_⟩
  ·exact inv.fzm b (h▸d)
  ·subst h;exact .inr (inv.mineB _ i p)
 ·intro b d
  exact m.fz b (inv.F0 b d)
end
section
variable{T:Tab}{P:Program}{Φ:Fr}{σ:St}{a:Act}{w w':World}{G G':Gh}{K:VK}{o:Oper}{d:Nat}
def Inv.put' c(inv:Inv T Φ (σ.apps c) a w G)(f:∀d,b=some d->Φ.wr d)(hv:Rv w G v' v)(e:v.ok (σ.apps c).hasB (σ.apps c).hasA):Inv T Φ (σ.put b v c) (a.put b v') w G:=by
 cases b with
 |none=>exact inv
 |some d=>exact inv.bA3 (f d rfl) hv e
def dX2(i:o.op= .call ⟨.value (.func f),⟨as⟩,j⟩)(b:callable P f=true):(execOp a.eval o).run P w= .ok (.enter f (as.map a.eval).toArray) w:=by
 unfold callable at b;split at b;rename_i e c;simp[Ru,bne_iff_ne]at b;have g:e.body≠none:=by intro h;rw[h]at b;simp at b
 simp[execOp,i,resolve,Act.eval,Deferred.ofValue,invoke,callFunc,c,g,b.2];cases b
def dO6{t g:Nat}(m:o.op= .call ⟨.value (.tmp t),⟨as⟩,p⟩)(n:a.tmps.getD t undef= .func (.func g) c f)(b:callable P g=true):(execOp a.eval o).run P w= .ok (.enter g (c.toList++as.map a.eval++f.toList).toArray) w:=by
 unfold callable at b;split at b;rename_i k i;simp[Ru,bne_iff_ne]at b;have l:k.body≠none:=by intro h;rw[h]at b;simp at b
 have j:a.eval (.tmp t)= .func (.func g) c f:=n;simp;simp[execOp,m,resolve,j,Deferred.ofValue,invoke,callFunc,i,l,b.2];cases b
def argsV_mem(h:x∈argsV b xs):x∈b\/x∈xs:=by
 unfold argsV at h;grind [bT,RZ]
def aX3(inv:Inv T Φ σ a w G){t g:Nat}{as:List Operand}(r:σ.env t= .fn g b)(q:isFnC b=true)(h:kY T P f σ d g (argsV b (as.map σ.ev)) K):
 ∃k l,a.tmps.getD t undef= .func (.func g) k l/\callable P g=true/\Calls P g (k.toList++as.map a.eval++l.toList).toArray w λe w'=>∃v',e= .returned v'/\∃v m G',K v m/\Inv T Φ (σ.apps m) a w' G'/\Rv w' G' v' v/\v.ok (σ.apps m).hasB (σ.apps m).hasA:=by
 have u:=inv.env t;have c:=inv.wfE t;rw[r]at u c
 have n:∀(i:Nat) v x,(as.map a.eval)[i]? =some v->(as.map σ.ev)[i]? =some x->Rv w G v x/\x.ok σ.hasB σ.hasA:=by
  intro i v x hv j;have hi:i<as.length:=by simpa using(QW.1 hv).1
  have C:v=a.eval as[i] :=by simpa [hi]using hv.symm
  have D:x=σ.ev as[i] :=by simpa [hi]using j.symm
  rw[C,D];exact inv.ev as[i]
 let⟨k,l,z,A,B⟩:=u.fn_args q (as.map a.eval) (as.map σ.ev) Ad (λi v x hv j=>(n i v x hv j).1);refine⟨k,l,z,cP8 inv A (λi v x hv j=>⟨B i v x hv j,?_⟩) h⟩;rcases argsV_mem (QZ j)with s|s
 ·exact aH.1 c x s
 ·obtain⟨y,_,rfl⟩:=Rn.1 s
  exact(inv.ev y).2
def eM3(f:P.underlying t=some (.slice e)) b n c:(binOp .eql t (.slice b n c) (.slice none 0 0)).run P w= .ok (.bool b.isNone) w:=by
 simp[binOp];simp[run_equal_slice_nil w t e b n c f]
def eG0(B:bP T P)(inv:Inv T Φ σ a w G)(o:Oper)(hd:∀d,o.dst=some d->Φ.wr d)(h:bW T P u σ d o.op K):
 o.wp P a w (λy w'=>∃v ms G',K v ms/\Inv T Φ (σ.put o.dst v ms) y w' G') Q:=by
 unfold bW at h;split at h
 ·rename_i f as ts m
  rw[bC,dU]at h;let⟨H,b⟩:=bF2 inv as h;unfold Oper.wp;rw[dX2 m H,Oper.upon_enter];refine b.mono ?_;rintro e D ⟨v',rfl,v,ms,G',hk,inv',hv,hvo⟩;exact Px
 ·rename_i t as ts m
  split at h
  ·rename_i g O J
   let⟨I,h⟩:=aT h;rw[bC,dU]at h;let⟨fs,lb,Y,H,b⟩:=aX3 inv J I h;unfold Oper.wp;rw[dO6 m Y H,Oper.upon_enter];refine b.mono ?_;rintro e D ⟨v',rfl,v,ms,G',hk,inv',hv,hvo⟩;exact⟨v,ms,G',hk,Inv.put' ms inv' hd hv hvo⟩
  ·exact h.elim
 ·rename_i t x lo hi mx m
  have k:∀{E}{ns}{N},Inv T Φ (σ.apps ns) a w N->opVC T (σ.apps ns) d o.op E->(∀v ms,E v ms->K v (ns++ms))->o.wp P a w (λy w'=>∃v ms G',K v ms/\Inv T Φ (σ.put o.dst v ms) y w' G') Q:=by
   intro E ns N j F hk1;let⟨v',D,v,ms,G',i,hk,inv',hv,hvo⟩:=xQ B j o F;rw[<-dO]at inv' hvo;unfold Oper.wp;rcases i with i|⟨i,rfl⟩;rw[i,Uk];exact QA;rw[i,Oper.upon_skip];exact QA
  rw[<-m]at h;split at h
  ·split at h
   ·rename_i gen ty l r
    let⟨O',j,_,_⟩:=inv.freeze r (.inl rfl);exact k j h (λ_ _ hk=>hk)
   ·rename_i gen ty l r
    let⟨O',j,_,_⟩:=inv.freeze r (.inr rfl);exact k j h (λ_ _ hk=>hk)
   ·exact k (ns:=[]) inv h (λ_ _ hk=>hk)
  ·exact k (ns:=[]) inv h (λ_ _ hk=>hk)
 ·rename_i V t x c U m
  split at h
  ·rename_i l hx
   let⟨W,ty,kd,L,z⟩:=h;subst W
   have C:∃e,P.underlying t=some (.slice e):=by
    let⟨X,F,R,_⟩:=(B t ty).und;rw[kd]at R;cases X<;>simp[kdOf]at R;exact⟨_,F⟩
   let⟨e,C⟩:=C;have s:=(inv.ev (.tmp x)).1;have M:σ.ev (.tmp x)= .sl l:=hx;rw[M]at s
   have k:∀ q  n A ,a.eval (.tmp x)= .slice q n A->(l≠ []->q.isNone=false)->o.wp P a w (λy w'=>∃v ms G',K v ms/\Inv T Φ (σ.put o.dst v ms) y w' G') Q:=by
    intro q n A S hl;have hk:=z q.isNone hl;unfold Oper.wp;rcases L with rfl|rfl;rw[yY (.tmp x) (.const (.slice none 0 0)) .eql t U m _ _ (.bool q.isNone) S rfl (qZ _ _ _ _ _ _ Ad Ad) (eM3 C q n A),Uk];exact QM;rw[yY (.tmp x) (.const (.slice none 0 0)) .neq t U m _ _ (.bool (!q.isNone)) S rfl (qZ _ _ _ _ _ _ Ad Ad) (run_neq_slice_nil w t e q n A C),Uk];exact QM
   generalize Z:a.eval (.tmp x)=xv at s;cases s<;>simp_all
  ·rw[<-m]at h
   let⟨v',D,v,ms,G',i,hk,inv',hv,hvo⟩:=xQ B inv o h;unfold Oper.wp;rcases i with i|⟨i,rfl⟩
   ·rw[i,Uk]
    exact⟨v,ms,G',hk,Inv.put' ms inv' hd hv hvo⟩
   ·rw[i,Oper.upon_skip]
    exact⟨v,ms,G',hk,Inv.put' ms inv' hd hv hvo⟩
 ·let⟨v',D,v,ms,G',i,hk,inv',hv,hvo⟩:=xQ B inv o h
  unfold Oper.wp;rcases i with i|⟨i,rfl⟩
  ·rw[i,Uk]
   exact Px
  ·rw[i,Oper.upon_skip]
   exact Px
def bD0:CallsIn (FW b) 0 P f args w R↔Calls P f args w R:=callsIn_wide
def dR1(h:Rows P row args w R):RowsIn (FW b) 0 P row args w R:=λc cs _=>by
 let⟨v,w',r,s⟩:=h c cs;exact⟨v,w',r,(stepsIn_wide (P:=P)).2 s⟩
def dD1(b:∀c,o.op≠ .defer c)(h:o.wp P a w next Q):o.wpIn (FW e) 0 P a w next Q:=by
 unfold Oper.wp at h;refine⟨λ_ _=>trivial,?_⟩;rw[Oper.semAt_eq _ _ _ b];generalize (execOp a.eval o).run P w=r at h⊢;cases r with
 |ok x w'=>
  cases x<;>simp only[Oper.upon,Oper.uponIn]at h⊢
  case value=>exact h
  case skip=>exact h
  case defer=>exact h
  case enter=>exact⟨λhh=>ES,bD0.2 h⟩
  case row=>exact⟨λhh=>ES,dR1 h⟩
 |halt x w'=>cases x<;>simp[Oper.upon,Oper.uponIn]at h⊢<;>exact h
def eS3(h:bW T P b σ d e K):∀c,e≠ .defer c:=by
 rintro c rfl;exact(h:False).elim
def dF4(f:bP T P)(inv:Inv T Φ σ a w G)(o:Oper)(g:∀d,o.dst=some d->Φ.wr d)(h:bW T P b σ d o.op K) i:
 o.wpIn (FW i) 0 P a w (λe w'=>∃v c G',K v c/\Inv T Φ (σ.put o.dst v c) e w' G') Q:=dD1 (eS3 h) (eG0 f inv o g h)
def cM8 b:∀(σ:St)  K,dZ7 b σ.env σ.bx σ.ar K=K (σ.apps b).env (σ.apps b).bx (σ.apps b).ar:=by
 induction b with
 |nil=>intro σ K;rfl
 |cons m r e=>
  intro σ K;have c:σ.apps (m::r)=(m.app σ).apps r:=rfl;rw[c,<-e (m.app σ) K];cases m<;>rfl
def Step(T:Tab)(P:Program)(light:Md)(n:Nat)(ops:List Oper)(o:Oper)(σ:St)(K:St->Prop):Prop:=
 match o.guard with
 |none=>((∀d,o.dst=some d->d<n)/\bW T P light σ (o.dst.getD n) o.op λv ms=>K (σ.put o.dst v ms))\/
  (light= .free/\∃d g c cs,o.dst=some d/\d<n/\o.op= .makeFunc (.func g) ⟨[]⟩ ⟨c::cs⟩/\zX (T.ref g) σ.ar (c::cs) σ.env σ.bx λenv bx caps=>K ⟨upd env d (.fn g caps),bx,σ.ar⟩)\/
  (light= .free/\∃σ1,Le T σ σ1/\(∀d,o.dst=some d->d<n)/\bW T P light σ1 (o.dst.getD n) o.op λv ms=>K (σ1.put o.dst v ms))
 |some (j,want)=>∃s,tV ops j=some s/\(∀d,o.dst=some d->d<n)/\
  ((∃b,σ.env s= .lit (.bool b)/\if b=want then bW T P light σ (o.dst.getD n) o.op λv ms=>K (σ.put o.dst v ms)else K (σ.put o.dst (.tup []) []))\/(∃cs,σ.env s= .tup cs/\K (σ.put o.dst (.tup []) [])))
def qK{K}(h:aV2 T P c n b j i σ.env σ.bx σ.ar K):
 (∀d,b=some d->d<n)/\bW T P c σ (b.getD n) j λv e=>i (σ.put b v e).env (σ.put b v e).bx (σ.put b v e).ar K:=by
 unfold aV2 at h;cases b with
 |none=>
  refine⟨(λ_ h=>Ah),?_⟩;have f:=h;simp[cM8 _ σ]at f;exact f
 |some d=>
  let⟨k,g⟩:=aT h;refine⟨(λl h=>by cases h;exact blt k),?_⟩;simp[cM8 _ σ]at g;exact g
def aD8{K}(h:bF6 n b c σ.env σ.bx σ.ar K):
 (∀d,b=some d->d<n)/\c (σ.put b (.tup []) []).env (σ.put b (.tup []) []).bx (σ.put b (.tup []) []).ar K:=by
 unfold bF6 at h;cases b with
 |none=>exact⟨(λ_ h=>Ah),h⟩
 |some d=>
  let⟨f,e⟩:=aT h;exact⟨(λg h=>by cases h;exact blt f),e⟩
def cJ2 f s(x:b)(h:f s=x):upd f s x=f:=by
 grind [upd_same,upd_ne]
def aX6{K}(h:bH0 T P e n ops o z σ.env σ.bx σ.ar K):
 Step T P e n ops o σ λr=>z r.env r.bx r.ar K:=by
 unfold bH0 at h;let⟨x,F,ty,H,v,k⟩:=o;simp only at h⊢;cases k with
 |none=>
  have f:dB2 T P e n x F z σ.env σ.bx σ.ar K:=h;unfold dB2 at f;split at f;rename_i g c cs;split at f;rename_i d;let⟨D,q⟩:=aT f;exact .inr (.inl ⟨rfl,d,g,c,cs,rfl,blt D,rfl,q⟩);exact f.elim;rename_i t m I;split at f;cases C:allR (λp=>allR V.atom (St.ev ⟨σ.env,σ.bx,σ.ar⟩ p.2).cells) I.toList with
  |true=>rw[C]at f;exact .inl (qK f)
  |false=>
   rw[C]at f;let⟨A,y,l⟩:=cR5.out f;let⟨J,L⟩:=qK l;exact .inr (.inr ⟨rfl,A,y,J,L⟩)
  exact .inl (qK f);exact .inl (qK f)
 |some g=>
  let⟨j,i⟩:=g;simp only at h⊢;split at h;rename_i s E;refine⟨s,E,?_⟩;split at h;rename_i b u;cases b with
  |true=>
   rw[show upd σ.env s (B true)=σ.env from cJ2 _ _ _ u]at h;cases i with
   |true=>
    let⟨l,q⟩:=qK (σ:=σ) h;simp_all
   |false=>
    let⟨l,q⟩:=aD8 (σ:=σ) h;simp_all
  |false=>
   rw[show upd σ.env s (B false)=σ.env from cJ2 _ _ _ u]at h;cases i with
   |true=>
    let⟨l,q⟩:=aD8 (σ:=σ) h;simp_all
   |false=>
    let⟨l,q⟩:=qK (σ:=σ) h;simp_all
  rename_i cs u;let⟨l,q⟩:=aD8 (σ:=σ) h;exact⟨l, .inr ⟨cs,u,q⟩⟩;exact h.elim;exact h.elim
def Run(T:Tab)(P:Program)(light:Md)(n:Nat)(ops:List Oper):List Oper->St->(St->Prop)->Prop
 | [],σ,K=>K σ
 |o::r,σ,K=>Step T P light n ops o σ λσ'=>Run T P light n ops r σ' K
theorem aJ6 f ar c r env bx K:zX f ar (c::r) env bx K=(match St.ev ⟨env,bx,ar⟩ c with
 | .box i off=>match off,bx i with
   |0,some b=>match f with
    |true=>zX f ar r env bx λenv bx e=>K env bx (.box i 0::e)
    |false=>bJ b λb=>cond (allR V.atom b&&Nat.blt i 100000) (zX f ar r (λs=>(env s).frz i b) (frzB i b bx) λenv bx e=>K env bx (.fp b::e)) False
   |_,_=>False
 | .fp cs=>zX f ar r env bx λenv bx e=>K env bx (.fp cs::e)
 |_=>False):=rfl
theorem dS4:∀ {env} {bx} {K f},(∀env bx b,K env bx b->f env bx b)->zX k ar xs env bx K->zX k ar xs env bx f:=by
 induction xs with
 |nil=>intro env bx K f e h;exact e _ _ _ h
 |cons c r j=>
  intro env bx K f e h;rw[aJ6]at h⊢;split at h;rename_i i off n;split at h;rename_i g p;cases k with
  |true=>exact j (λenv bx b=>e _ _ _) h
  |false=>
   rw[bC]at h;let⟨m,l⟩:=aT h;rw[bC,m,TD];exact j (λenv bx b=>e _ _ _) l
  exact h.elim;exact j (λenv bx b=>e _ _ _) h;exact h.elim
def dB3{x:V}(h:x.atom=true)(hok:x.ok p q):x.pure:=JQ
def eI4:∀ {σ} {G} {K},Inv T Φ σ a w G->zX false σ.ar xs σ.env σ.bx K->
 ∃env bx e G',K env bx e/\Inv T Φ ⟨env,bx,σ.ar⟩ a w G'/\Keep w w G G'/\e.length=xs.length/\bM e/\∀(i:Nat) c x,xs[i]? =some c->e[i]? =some x->Rv w G' (a.eval c) x:=by
 induction xs with
 |nil=>intro σ G K inv h;exact⟨σ.env,σ.bx,[],G,h,inv,Keep.refl w G,rfl,Cc,λi c x hc=>I5⟩
 |cons c r H=>
  intro σ G K inv h;rw[aJ6]at h;let⟨hv,hok⟩:=inv.ev c
  have l:∀{e}{y G'}{v},Keep w w y G'->Rv w y (a.eval c) v->v.pure->(∀(i:Nat) c x,r[i]? =some c->e[i]? =some x->Rv w G' (a.eval c) x)->∀(i:Nat) u x,(c::r)[i]? =some u->(v::e)[i]? =some x->Rv w G' (a.eval u) x:=by
   intro e y G' v M I N Q i u x hc k;cases i with
   |zero=>simp at hc k;subst hc;subst k;exact I.aW M N
   |succ i=>exact Q i u x D8 (by simpa using k)
  split at h;rename_i i off g;split at h;rename_i f m;rw[bC]at h;let⟨z,J⟩:=aT h;rw[Ru]at z;have j:=aH.2 λx k=>dB3 (dY.1 z.1 x k) (aH.1 (inv.wfB i f m) x k);let⟨q,B⟩:=inv.bV0 m (blt z.2) j;let⟨env,bx,e,G',C,D,t,E,q5,F⟩:=H (σ:=⟨λs=>(σ.env s).frz i f,frzB i f σ.bx,σ.ar⟩) q J;let⟨cc,W,R,S,U⟩:=inv.box i f m
  have A:Rv w {G with O:=upd G.O (G.β i) .fz} (a.eval c) (.fp f):=by
   have n:σ.ev c= .box i 0:=g;have:=hv.frz R S j U hok;grind [zG]
  have hfpp:(V.fp f).pure:=by simp[V.pure,V.ok];exact j
  exact⟨env,bx,_,G',C,D,⟨λb m=>t.fz b (B.fz b m),λ_ _=>rfl⟩,by simp[E],Ic,l t A hfpp F⟩;exact h.elim;rename_i cs g;let⟨env,bx,e,G',C,D,t,E,q5,F⟩:=H (σ:=σ) inv h;have n:=g;rw[n]at hv hok;have hfpp:=Bf;exact⟨env,bx,_,G',C,D,t,by simp[E],Ic,l t hv hfpp F⟩;exact h.elim
def eF6(inv:Inv T Φ σ a w G):∀ {K},zX true σ.ar xs σ.env σ.bx K->
 ∃b,K σ.env σ.bx b/\b.length=xs.length/\V.okL σ.hasB σ.hasA b/\∀(i:Nat) c x,xs[i]? =some c->b[i]? =some x->Rv w G (a.eval c) x:=by
 induction xs with
 |nil=>intro K h;exact⟨[],h,rfl,Cc,λi c x hc=>I5⟩
 |cons c r k=>
  intro K h;rw[aJ6]at h;let⟨hv,j⟩:=inv.ev c
  have f:∀ g ,σ.ev c=g->(zX true σ.ar r σ.env σ.bx λenv bx b=>K env bx (g::b))->∃b,K σ.env σ.bx b/\b.length=(c::r).length/\V.okL σ.hasB σ.hasA b/\∀(i:Nat) c' x,(c::r)[i]? =some c'->b[i]? =some x->Rv w G (a.eval c') x:=by
   grind [V.okL]
  split at h;rename_i i off e;split at h;exact f _ e h;exact h.elim;rename_i cs e;exact f _ e h;exact h.elim
def dA6{K}(inv:Inv T Φ σ a w G)(h:zX k σ.ar xs σ.env σ.bx K):
 ∃env bx b G',K env bx b/\Inv T Φ ⟨env,bx,σ.ar⟩ a w G'/\b.length=xs.length/\V.okL (St.hasB ⟨env,bx,σ.ar⟩) (St.hasA ⟨env,bx,σ.ar⟩) b/\∀(i:Nat) c x,xs[i]? =some c->b[i]? =some x->Rv w G' (a.eval c) x:=by
 cases k with
 |true=>
  let⟨b,e,f,j,g⟩:=eF6 inv h;exact⟨σ.env,σ.bx,b,G,e,inv,f,j,g⟩
 |false=>
  let⟨env,bx,b,G',e,f,j,g,m,n⟩:=eI4 inv h;exact⟨env,bx,b,G',e,f,g,aH.2 λx l=>V.pure.ok (aH.1 m x l) _ _,n⟩
def Step.mono{n:Nat}{K e}(k:∀(σ:St) (f g:VK),(∀v i,f v i->g v i)->bW T P b σ (o.dst.getD n) o.op f->bW T P b σ (o.dst.getD n) o.op g)(h:Step T P b n ops o σ K)(j:∀c,K c->e c):Step T P b n ops o σ e:=by
 unfold Step at*;split at h;grind [dS4];grind
def xK w G:Rv w G undef (.tup []):= .tup #[] [] rfl (λi c x hc=>I5)
def bZ3(L:bP T P)(inv:Inv T Φ σ a w G){K}(hA:e.toList=ops)(m:∀d,o.dst=some d->Φ.keep d=none)(h:Step T P l Φ.n ops o σ K) E:
 if Region.wanted o (yielded e a.tmps)=true then o.wpIn (FW E) 0 P a w (λF w'=>∃f G',K f/\Inv T Φ f F w' G') Q else∃G',∃f,K f/\Inv T Φ f (a.put o.dst undef) w G':=by
 unfold Step at h
 have J:(∀d,o.dst=some d->d<Φ.n)->(bW T P l σ (o.dst.getD Φ.n) o.op λv W=>K (σ.put o.dst v W))->o.wpIn (FW E) 0 P a w (λF w'=>∃f G',K f/\Inv T Φ f F w' G') Q:=by
  intro H I;refine Oper.wpIn_mono ?_ (dF4 L inv o (λd h=>⟨H d h,m d h⟩) I (Q:=Q) E);grind
 have skip:(∀d,o.dst=some d->d<Φ.n)->K (σ.put o.dst (.tup []) [])->∃G',∃f,K f/\Inv T Φ f (a.put o.dst undef) w G':=by
  intro H O;refine⟨G,_,O,?_⟩;exact Inv.put' [] inv (λd h=>⟨H d h,m d h⟩) (xK w G) Et
 split at h
 ·rename_i hg
  rw[QU CX];rcases h with h|⟨_,d,g,c,cs,q,y,r,N⟩|⟨_,Z,q,y,r⟩
  ·exact J h.1 h.2
  rotate_left
  ·unfold Le at q
   let⟨G1,z⟩:=q Φ a w G inv;refine Oper.wpIn_mono ?_ (dF4 L z o (λd h=>⟨y d h,m d h⟩) r (Q:=Q) E);grind
  ·let⟨env,bx,t,G',A,D,X,Y,q6⟩:=dA6 inv N
   have R:(execOp a.eval o).run P w= .ok (.value (.func (.func g) #[] ((c::cs).map a.eval).toArray)) w:=by
    simp[execOp,r,Instr.makeFunc]
   refine dD1 (λc=>by rw[r];exact λh=>by cases h) ?_;unfold Oper.wp;rw[R,Uk];refine⟨_,G',A,?_⟩;rw[q];refine Inv.bA3 (σ:=⟨env,bx,σ.ar⟩) D ⟨y,m d q⟩ ?_ (by simp[V.ok];exact Y);refine .fn g _ t (by simp[X]) (λi u x hu hx=>?_);grind
 ·rename_i j B hg
  let⟨s,q,y,r⟩:=h
  have k:(e[j]?).bind (·.dst)=some s:=by
   grind [uN,tV]
  have U:Region.wanted o (yielded e a.tmps)=(yielded e a.tmps j==some B):=CX;have C:=inv.env s;rcases r with⟨b,A,D⟩|⟨cs,A,D⟩
  ·rw[A]at C
   have hv:=C.bH
   have S:a.tmps[s]? =some (.bool b):=by
    cases h:a.tmps[s]? with
    |none=>simp[h,undef]at hv
    |some u=>simp[h]at hv;rw[hv]
   have M:yielded e a.tmps j=some b:=by simp[yielded,k,S]
   grind
  ·rw[A]at C
   let⟨vs,hv,_⟩:=C.eP1
   have M:yielded e a.tmps j=none:=by
    simp[yielded,k,Option.bind_some];cases h:a.tmps[s]? <;>simp_all
   rw[U,M,Q9 Ad];exact skip y D
def eB0(s:bP T P){K}(m:c.toList=ops) k(q:∀b j w' G',K b->Inv T Φ b j w' G'->Q .normal j w'):
 ∀(l:List Oper)  σ  a  w  G,(∀o∈l,∀d,o.dst=some d->Φ.keep d=none)->Inv T Φ σ a w G->Run T P e Φ.n ops l σ K->wpListIn (FW k) 0 P c Q l a w:=by
 intro l;induction l with
 |nil=>intro σ a w G _ inv h;exact q σ a w G h inv
 |cons o r v=>
  intro σ a w G f inv h;have:=bZ3 s inv m (o:=o) (f o Ad) h (Q:=Q) k;unfold wpListIn;split;rename_i i;grind [Oper.wpIn_mono];rename_i i;rw[Q9 i]at this;let⟨G',b,t,g⟩:=this;exact⟨λ_ _=>trivial,v b _ w G' (λo u=>f o (by simp[u])) g t⟩
end
def Det(Φ:VK->Prop):Prop:=∀K,Φ K->∃v ms,K v ms/\∀K',K' v ms->Φ K'
def Det.ret v a:Det (λK=>K v a):=λ_ h=>⟨v,a,h,λ_ h=>h⟩
def Det.false:Det (λ_=>False):=λ_ h=>h.elim
def Det.need(h:Det Φ):Det (λK=>need p (Φ K)):=λK a=>by
 let⟨d,a⟩:=dX a;let⟨v,e,b,c⟩:=h K a;grind
def Det.arith{Φ:Int->VK->Prop}(h:∀m,Det (Φ m)):Det (λK=>arith k n λm=>Φ m K):=λK e=>by
 let⟨v,f,c,d⟩:=h _ K (wI e);exact⟨v,f,c,λb a=>by refine⟨?_⟩;exact d b a⟩
def Det.idx{Φ:V->VK->Prop}(h:∀x,Det (Φ x)):Det (λK=>idx l i λx=>Φ x K):=λK a=>by
 let⟨x,f,a⟩:=cO3 a;let⟨v,g,d,e⟩:=h x K a;exact⟨v,g,d,λc b=>by refine⟨?_⟩;exact⟨x,f,e c b⟩⟩
def Det.bytes{Φ:List Int->VK->Prop}(h:∀ns,Det (Φ ns)):Det (λK=>aZ0 xs λns=>Φ ns K):=λK a=>by
 let⟨ns,f,a⟩:=cC4 a;let⟨v,g,d,e⟩:=h ns K a;exact⟨v,g,d,λc b=>by refine⟨?_⟩;exact⟨ns,f,e c b⟩⟩
theorem Det.map{Φ:V->VK->Prop}(h:∀x,Det (Φ x)):Det (λK=>eG6 es s z λx=>Φ x K):=λK e=>by
 let⟨v,f,c,d⟩:=h _ K e.out;exact⟨v,f,c,λb a=>⟨d b a⟩⟩
def Det.force{Φ:V->VK->Prop}(h:∀x,Det (Φ x)):Det (λK=>force x λy=>Φ y K):=λK b=>by
 have a:Ab.force x (λy=>Φ y K):=b;rw[force_eq]at a;let⟨v,e,c,d⟩:=h x K a;grind [force_eq]
def Det.bJ{Φ:List V->VK->Prop}(h:∀l,Det (Φ l)):Det (λK=>bJ l λy=>Φ y K):=λK b=>by
 have a:Ab.bJ l (λy=>Φ y K):=b;rw[bC]at a;let⟨v,e,c,d⟩:=h l K a;grind [bC]
theorem Det.cond(h:Det Φ)(c:Det a):Det (λK=>cond b (Φ K) (a K)):=by
 cases b;exact c;exact h
theorem Det.branch(h:Det Φ)(c:Det a):Det (λK=>branch b (Φ K) (a K)):=by
 cases b;exact c;exact h
theorem Det.lF{Φ:List V->VK->Prop}(h:∀l,Det (Φ l)):Det (λK=>lF σ x λl=>Φ l K):=by
 unfold Ab.lF;exact Py
theorem Det.contsK{Φ:List V->VK->Prop}(h:∀l,Det (Φ l)):Det (λK=>contsK k σ x λl=>Φ l K):=by
 unfold Ab.contsK;split;exact Det.lF h;exact h _;exact Det.false
theorem Det.lV{Φ:List V->VK->Prop}(h:∀l,Det (Φ l)):Det (λK=>lV σ x λl=>Φ l K):=by
 unfold Ab.lV;exact Py
theorem Det.bound{Φ:Int->VK->Prop}(h:∀n,Det (Φ n)):Det (λK=>bound o a λn=>Φ n K):=by
 unfold Ab.bound;cases o with
 |none=>exact h _
 |some v=>
  cases v with
  |lit u=>
   cases u with
   |int k n=>exact h n
   |_=>exact Det.false
  |_=>exact Det.false
def yF r cs:Det (wB r cs):=by
 unfold wB;cases r.agg with
 |true=>exact Det.bJ λl=>Det.cond (Det.ret _ _) Det.false
 |false=>
  cases cs with
  |nil=>exact Det.false
  |cons x r=>exact Det.force λv=>Det.ret _ _
def aR1 a σ c:∀ cs (Φ:List V->VK->Prop),(∀l,Det (Φ l))->Det (λK=>oI a σ c cs λl=>Φ l K):=by
 induction c with
 |nil=>
  intro cs Φ h;exact Det.bJ (l:=cs) h
 |cons p r d=>
  intro cs Φ h
  have b:∀K,oI a σ (p::r) cs K=(match a p.1 with
   |some (o,z)=>cond (Nat.beq (lenR (σ.ev p.2).cells) z&&Nat.ble (o+z) (lenR cs)&&allR V.one (σ.ev p.2).cells) (oI a σ r (splice cs o (σ.ev p.2).cells) K) False
   |none=>False):=λK=>rfl
  simp only[b];cases a p.1 with
  |none=>exact Det.false
  |some q=>exact Det.cond (d _ Φ h) Det.false
def bD9 T σ d o:Det (opVC T σ d o):=by
 unfold opVC;split;exact Det.force λv=>Det.ret _ _;exact Det.force λv=>Det.ret _ _;unfold bA8;split;exact Det.branch (Det.force λv=>Det.ret _ _) (Det.force λv=>Det.ret _ _);exact Det.false;unfold unVC;split;exact Det.ret _ _;exact Det.arith λm=>Det.ret _ _;exact Det.false
 ·unfold bD7
  split
  ·refine Det.cond ?_ ?_
   ·unfold cM6
    split<;>first|exact Det.arith λm=>Det.ret _ _|exact Det.need (Det.arith λm=>Det.ret _ _)|exact Det.need (Det.ret _ _)|exact Det.ret _ _|exact Det.false
   unfold shVC;split<;>first|exact Det.need (Det.arith λm=>Det.ret _ _)|exact Det.need (Det.ret _ _)|exact Det.false
  ·unfold cH0
   split<;>first|exact Det.need (Det.ret _ _)|exact Det.ret _ _|exact Det.false
  ·refine Det.cond ?_ Det.false
   unfold bG1;split<;>first|exact Det.ret _ _|exact Det.false
  ·refine Det.cond ?_ Det.false
   unfold aL1;split
   ·refine Det.need ?_
    split<;>first|exact Det.ret _ _|exact Det.false
   ·refine Det.need ?_
    split<;>first|exact Det.ret _ _|exact Det.false
   exact Det.false
  ·refine Det.cond ?_ Det.false
   unfold ptrVC;split<;>first|exact Det.ret _ _|exact Det.false
  exact Det.false
 unfold lM;exact PX;refine Det.cond ?_ Det.false;unfold lM;exact PX;refine Det.cond ?_ Det.false;unfold jB;split;refine Det.cond Det.false ?_;split;exact Det.ret _ _;exact Det.bJ λl=>Det.ret _ _;exact Det.ret _ _;exact Det.false;exact Det.false;refine Det.cond ?_ Det.false;unfold aM2;split;exact Det.cond (yF _ _) Det.false;exact Det.false;refine Det.cond ?_ Det.false;unfold pW;split;split;exact yF _ _;exact Det.false;exact yF _ _;split;exact Det.need (Det.idx λx=>Det.cond (yF _ _) Det.false);exact Det.false;exact Det.false;refine Det.cond ?_ Det.false;unfold qU;split;split;exact Det.cond (Det.bJ λl=>Det.ret _ _) Det.false;exact Det.false;split;exact Det.need (Det.idx λx=>Det.cond (Det.bJ λl=>Det.ret _ _) Det.false);exact Det.false;exact Det.false;refine Det.cond ?_ Det.false;unfold gI;split;split;exact MB;exact MB;split;exact Det.need (Det.cond (Det.ret _ _) Det.false);exact Det.false;exact Det.false;split;exact Det.cond (Det.ret _ _) Det.false;exact Det.cond (Det.bJ λl=>Det.ret _ _) Det.false;exact Det.false;exact Det.false;refine Det.cond ?_ Det.false;unfold aM6;split;exact Det.need (Det.ret _ _);exact Det.cond (yF _ _) Det.false;exact Det.false;unfold wZ;split;split;exact Det.force λv=>Det.ret _ _;exact Det.false;exact Det.false;exact Det.ret _ _;exact Det.bJ λxs=>Det.ret _ _;refine Det.cond ?_ Det.false;unfold vO;split;exact aR1 _ _ _ _ (λcs K=>K (.agg cs) []) λl=>Det.ret _ _;exact Det.cond (aR1 _ _ _ _ (λcs K=>K (.agg cs) []) λl=>Det.ret _ _) Det.false;exact Det.false;refine Det.cond ?_ Det.false;unfold iZ;split;refine Det.cond ?_ Det.false;exact aR1 _ _ _ _ (λcs K=>cond (allR V.atom cs) (K _ _) False) λl=>Det.cond (Det.ret _ _) Det.false;exact Det.false;refine Det.cond ?_ Det.false;unfold jY;split;exact Det.need (Det.cond (Det.ret _ _) Det.false);exact Det.false;refine Det.cond ?_ Det.false;unfold sZ;split;split;exact Det.bound (Φ:=λl K=>bound _ _ λh=>need _ (K _ _)) λl=>Det.bound (Φ:=λh K=>need _ (K _ _)) λh=>Det.need (Det.ret _ _);exact Det.false;refine Det.cond ?_ Det.false;refine Det.lV λxs=>Det.bound λl=>Det.bound λh=>?_;split;exact Det.need (Det.ret _ _);split;exact Det.false;exact Det.bound λm=>Det.need (Det.ret _ _);exact Det.false;unfold aF1;split;unfold convB;split;exact Det.cond (Det.need (Det.ret _ _)) Det.false;exact Det.false;exact Det.cond (Det.lF λxs=>Det.bytes λns=>Det.ret _ _) Det.false;unfold bE4;split;exact Det.arith λm=>Det.ret _ _;exact Det.ret _ _;exact Det.false
 ·refine Det.cond ?_ Det.false
  split
  ·unfold aE9
   split<;>first|exact Det.ret _ _|exact Det.false|(split<;>first|exact Det.need (Det.ret _ _)|exact Det.false)
  ·unfold aI4
   split<;>first|exact Det.ret _ _|exact Det.false
  exact Det.false
 refine Det.cond ?_ Det.false;unfold kT;split;refine Det.cond ?_ Det.false;refine Det.contsK λxs=>?_;split;exact Lc;exact Lc;exact Lc;exact Det.false;exact Det.false
 ·unfold rP
  split<;>first|exact Det.ret _ _|exact Det.false
 ·unfold rP
  split<;>first|exact Det.ret _ _|exact Det.false
 refine Det.cond ?_ Det.false;unfold oN;split;exact Det.cond (Det.ret _ _) Det.false;exact Det.false;refine Det.cond ?_ Det.false;unfold rG;split;split;split;refine Det.need (Det.cond ?_ Det.false);exact QD;exact Det.false;exact Det.false;split;refine Det.cond ?_ Det.false;exact QD;exact Det.false;exact Det.false;exact Kq;exact Kq;exact Det.cond (Det.force λv=>Det.ret _ _) Det.false;exact Det.false
def bQ5 σ d rs:∀ j  a (Φ:List V->List Mod->VK->Prop),(∀vs ms,Det (Φ vs ms))->Det (λK=>uF σ d rs j a λvs ms=>Φ vs ms K):=by
 induction rs with
 |nil=>intro j a Φ h;exact h [] []
 |cons y r ih=>
  intro j a Φ h;simp[qL];split;split;simp_all;split;simp_all;exact Det.false;split;simp_all;split;simp_all;exact Det.false;exact ML
def dK3 σ d b r(f:List Mod->List Mod):Det (λK=>zZ σ d b r λv a=>K v (f a)):=by
 unfold zZ;split;exact bQ5 _ _ _ _ _ (λvs a K=>K (.agg vs) (f a)) λvs a=>Det.ret _ _;exact bQ5 _ _ _ _ _ (λvs a K=>K (.tup vs) (f a)) λvs a=>Det.ret _ _;refine bQ5 _ _ _ _ _ (λvs a K=>match vs with|v::_=>K v (f a)| [] =>False) λvs a=>?_;cases vs with
 |nil=>exact Det.false
 |cons v r=>exact Det.ret _ _
theorem bT4{Φ:V->Mod->VK->Prop}(h:∀v m,Det (Φ v m)):Det (λK=>xO ar ok N a e l x λv m=>Φ v m K):=by
 unfold xO;split;split;split;exact h _ _;exact Det.false;split;exact h _ _;exact Det.false;split;exact h _ _;exact Det.false
theorem aR4 ar is ok ys:∀ xs  N (Φ:List V->List Mod->VK->Prop),(∀vs ms,Det (Φ vs ms))->Det (λK=>oJ ar is ok ys xs N λvs ms=>Φ vs ms K):=by
 induction ys with
 |nil=>
  intro xs N Φ h;cases xs with
  |nil=>exact h [] []
  |cons x r=>exact Det.false
 |cons y r ih=>
  intro xs N Φ h;cases xs with
  |nil=>exact Det.false
  |cons x xr=>
   simp[zL];split;simp_all [bT4];simp_all [bT4];exact ML
def bO6 bx ar a ok bs:∀ is  N (Φ:List Mod->VK->Prop),(∀c,Det (Φ c))->Det (λK=>aB3 bx ar a ok bs is N λc=>Φ c K):=by
 induction bs with
 |nil=>
  intro is N Φ h;cases is with
  |nil=>exact h []
  |cons x r=>exact Det.false
 |cons b r d=>
  intro is N Φ h;cases is with
  |nil=>exact Det.false
  |cons i e=>
   simp[aJ1];split;simp_all [aR4];exact Det.false
def dO0 bx ar is ok d r bs(f:List Mod->List Mod):Det (λK=>aX2 bx ar is ok d r bs λv a=>K v (f a)):=by
 unfold aX2;split;exact aR4 _ _ _ _ _ _ (λvs a K=>aB3 bx ar is ok bs is (d+1000000) λns=>K (.tup vs) (f (appR a ns))) λvs a=>bO6 _ _ _ _ _ _ _ (λns K=>K _ _) λns=>Det.ret _ _;refine aR4 _ _ _ _ _ _ (λvs a K=>match vs with|v::_=>aB3 bx ar is ok bs is (d+1000000) λns=>K v (f (appR a ns))| [] =>False) λvs a=>?_;cases vs with
 |nil=>exact Det.false
 |cons v r=>exact bO6 _ _ _ _ _ _ _ (λns K=>K _ _) λns=>Det.ret _ _
def cJ6 T P a σ d f xs:Det (kY T P a σ d f xs):=by
 intro K h;rcases h.out with⟨ys,r,lend,i,m,n,o⟩|⟨s,ys,r,j,k,g,e,l,z,i,m,n,o,w,x,y⟩|⟨ys,is,bs,r,c,s,i,m,n,o⟩;case inr.inl=>exact⟨r,_,y,λq p=>⟨.inr (.inl ⟨s,ys,r,j,k,g,e,l,z,i,m,n,o,w,x,p⟩)⟩⟩
 case inr.inr=>
  let⟨v,b,t,u⟩:=dO0 σ.bx σ.ar is (ownG ((xs,ys)::eU σ.bx bs is)) d r c (λb=>appR (aV σ (mF ((xs,ys)::eU σ.bx bs is))) (appR (aX σ (ownG ((xs,ys)::eU σ.bx bs is))) b)) K o;exact⟨v,b,t,λq p=>⟨.inr (.inr ⟨ys,is,bs,r,c,s,i,m,n,u q p⟩)⟩⟩
 let⟨v,b,t,u⟩:=dK3 σ d (reuse σ (bD ys xs)) r (λb=>appR (cond lend [] (aV σ (bK ys xs))) (appR (aX σ (bD ys xs)) b)) K o;refine⟨v,b,t,λq p=>?_⟩;refine⟨.inl ?_⟩;exact⟨ys,r,lend,i,m,n,u q p⟩
theorem bU4 T P a σ d i:Det (bW T P a σ d i)\/(a= .free/\∃f t c l,∀K,bW T P a σ d i K=bV3 T f t c l K):=by
 unfold bW;split;exact .inl (Det.bJ λxs=>cJ6 _ _ _ _ _ _ _);refine .inl ?_;split;exact Det.cond (Det.bJ λxs=>cJ6 _ _ _ _ _ _ _) Det.false;exact Det.false;refine .inl ?_
 have b:∀(e:St) (o:Op) (m:Mod),Det (λK=>opVC T e d o λv g=>K v (m::g)):=λe o m K h=>by
  let⟨v,g,k,n⟩:=bD9 T e d o _ h;exact⟨v,m::g,k,λp j=>n _ j⟩
 split;split;exact b _ _ _;exact b _ _ _;exact bD9 _ _ _ _;exact bD9 _ _ _ _;split;exact .inr ⟨rfl,_,_,_,_,λK=>rfl⟩;exact .inl (bD9 _ _ _ _);exact .inl (bD9 _ _ _ _)
def cH1 T P hv σ d a:Det (bW T P (.drawn hv) σ d a):=by
 grind [bU4]
def aR8(o:∀v f,e v f->i v f)(h:bW T P a σ d g e):bW T P a σ d g i:=by
 rcases bU4 T P a σ d g with m|⟨_,j,t,c,l,n⟩;let⟨v,f,p,q⟩:=m e h;simp_all;rw[n]at h⊢;exact⟨h.c0,h.ty,h.kd,h.op,λb k=>o _ _ (h.out b k)⟩
def Is(v:V)(ms:List Mod):VK:=λv' ms'=>v'=v/\ms'=ms
def Mod.same(σ σ':St):Mod->Prop
 | .b i _=>σ'.bx i=σ.bx i
 | .a k _=>σ'.ar k=σ.ar k
def Mod.fresh(σ:St):Mod->Prop
 | .b i _=>σ.bx i=none
 | .a k _=>σ.ar k=none
def Mod.key(p:Nat->Prop)(q:Nat->Nat->Prop):Mod->Prop
 | .b i _=>p i
 | .a k _=>∃g,q k g
abbrev V.agr(σ σ':St)(x:V):Prop:=x.ok (λi=>σ'.bx i=σ.bx i) (λk _=>σ'.ar k=σ.ar k)
section
variable{T:Tab}{P:Program}{σ σ':St}{d:Nat}{v:V}{ms:List Mod}
def bJ6(f:∀m∈ms,m.same σ σ')(h:lM σ d cs (Is v ms)):lM σ' d cs (Is v ms):=by
 unfold lM at*;split at h;rename_i e;have a:=h;rw[bC]at a;let⟨_,c⟩:=aT a;have:=f (.b d cs) (by rw[<-c.2];simp);rw[show σ'.bx d=none from this.trans e];exact h;exact h.elim
def dW7(a:x.agr σ σ')(h:pW r σ x (Is v ms)):pW r σ' x (Is v ms):=by
 unfold pW at*;exact QS
def dJ9(a:x.agr σ σ')(h:qU r σ x y (Is v ms)):qU r σ' x y (Is v ms):=by
 unfold qU at*;exact QS
def bO4(a:x.agr σ σ')(h:gI T r σ x i (Is v ms)):gI T r σ' x i (Is v ms):=by
 cases x<;>simp_all [V.agr,V.ok,gI]
theorem bS6(a:x.agr σ σ')(h:lF σ x K):lF σ' x K:=by
 unfold lF at h;split at h;exact h;exact h;exact h;simp_all [V.agr,V.ok,lF];exact h.elim
def dA4(a:x.agr σ σ')(h:lV σ x K):lV σ' x K:=by
 unfold lV at h;split at h;exact h;exact h;exact h;simp_all [V.agr,V.ok,lV];exact h.elim
def eN2(a:x.agr σ σ')(h:aE9 σ x (Is v ms)):aE9 σ' x (Is v ms):=by
 unfold aE9 at h;split at h;exact h;exact h;exact h;simp_all [V.agr,V.ok,aE9];exact h.elim
def dK8(g:x.agr σ σ')(h:sZ T r σ x lo hi a (Is v ms)):sZ T r σ' x lo hi a (Is v ms):=by
 unfold sZ at*;split at h;exact h;rename_i f;let⟨b,c⟩:=aT h;have e:=dA4 g c;rw[b];exact e;exact h.elim
def aS7:∀ {cs} {K},(∀p∈a,σ'.ev p.2=σ.ev p.2)->oI place σ a cs K->oI place σ' a cs K:=by
 induction a with
 |nil=>intro cs K _ h;exact h
 |cons p r c=>
  intro cs K b h;exact Og
def aU7:∀ {cs} {K},oI place σ c cs K->∃a,K a:=by
 induction c with
 |nil=>intro cs K h;have b:bJ cs K:=h;rw[bC]at b;exact⟨_,b⟩
 |cons p r e=>
  intro cs K h;exact Og
def dM6(b:∀p∈a,σ'.ev p.2=σ.ev p.2)(h:vO T r σ a (Is v ms)):vO T r σ' a (Is v ms):=by
 unfold vO at*;split at h;exact aS7 b h;let⟨c,e⟩:=aT h;rw[c];exact aS7 b e;exact h.elim
def bB6(j:∀p∈b,σ'.ev p.2=σ.ev p.2)(k:∀m∈ms,m.same σ σ')(h:iZ T r σ d n b (Is v ms)):iZ T r σ' d n b (Is v ms):=by
 unfold iZ at*;split at h;rename_i a i;let⟨f,c⟩:=aT h;let⟨e,g⟩:=aU7 c;let⟨_,_,h4⟩:=aT g;have:=k _ Bq;simp only[show σ'.ar d=none from this.trans i,a];rw[f];exact aS7 j c;exact h.elim
def bN2(f:∀m∈ms,m.same σ σ')(h:jY T r σ d n c (Is v ms)):jY T r σ' d n c (Is v ms):=by
 unfold jY at*;split at h;rename_i a e;have b:=(dX h).2;let⟨_,_,h4⟩:=aT b;have:=f _ Bq;simp only[show σ'.ar d=none from this.trans e,a];exact h;exact h.elim
def eQ1(h:lF σ x K):∃l,K l:=by
 unfold lF at h;grind [dX]
def eK7(h:lV σ x K):∃l,K l:=by
 unfold lV at h;grind [dX]
theorem cS8(b:∀l,K l->a l)(h:lF σ x K):lF σ x a:=by
 unfold lF at*;grind [dX]
def contsK_p(h:contsK k σ x K):∃l,K l:=by
 unfold contsK at h;split at h;exact eQ1 h;exact⟨_,h⟩;exact h.elim
def contsK_mono(b:∀l,K l->a l)(h:contsK k σ x K):contsK k σ x a:=by
 unfold contsK at*;grind [cS8]
def loc_contsK(a:x.agr σ σ')(h:contsK k σ x K):contsK k σ' x K:=by
 unfold contsK at*;grind [bS6]
def cY6(g:s.agr σ σ')(f:x.agr σ σ')(hm:∀m∈ms,m.same σ σ')(h:kT T r a σ d s x (Is v ms)):kT T r a σ' d s x (Is v ms):=by
 unfold kT at*;split at h;rename_i e;let⟨b,c⟩:=aT h;rw[b];refine loc_contsK f (contsK_mono (λxs h=>?_) c);split at h;exact KD;exact KD;simp_all [V.agr,V.ok];exact h.elim;exact h.elim
end
end Go.Ab
