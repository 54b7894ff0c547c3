/-
  A call to which variables of the frame are lent.
-/
import Derived.Test.YtdjgbagnajikeaaGreatDoorA7
set_option linter.unusedVariables false
set_option linter.unusedSimpArgs false
noncomputable section
namespace Go.Ab
theorem dH8(f:Nat->Nat)(xs:List V):(V.agg xs).ren f= .agg (xs.map (V.ren f)):=by
 have h:∀l:List V,(V.agg l).ren f= .agg (l.map (V.ren f)):=by
  intro l
  induction l with
  |nil=>rfl
  |cons x r ih=>
   have e1:(V.agg (x::r)).ren f=(match(V.agg r).ren f with| .agg l=> .agg (x.ren f::l)|y=>y):=rfl
   rw[e1,ih];rfl
 exact h xs
theorem dD2(f:Nat->Nat)(xs:List V):(V.tup xs).ren f= .tup (xs.map (V.ren f)):=by
 have h:∀l:List V,(V.tup l).ren f= .tup (l.map (V.ren f)):=by
  intro l
  induction l with
  |nil=>rfl
  |cons x r ih=>
   have e1:(V.tup (x::r)).ren f=(match(V.tup r).ren f with| .tup l=> .tup (x.ren f::l)|y=>y):=rfl
   rw[e1,ih];rfl
 exact h xs
theorem eK1(f:Nat->Nat)(g:FuncId)(xs:List V):(V.fn g xs).ren f= .fn g (xs.map (V.ren f)):=by
 have h:∀l:List V,(V.fn g l).ren f= .fn g (l.map (V.ren f)):=by
  intro l
  induction l with
  |nil=>rfl
  |cons x r ih=>
   have e1:(V.fn g (x::r)).ren f=(match(V.fn g r).ren f with| .fn g l=> .fn g (x.ren f::l)|y=>y):=rfl
   rw[e1,ih];rfl
 exact h xs
mutual
theorem V.ok.ren{p p':Nat->Prop}{q:Nat->Nat->Prop}{f:Nat->Nat}(hp:∀j,p j->p' (f j)):(x:V)->x.ok p q->(x.ren f).ok p' q
 | .bot,_=>FK
 | .lit u,_=>Ff
 | .agg l,h=>by
   rw[dH8];simp only[V.ok]at h⊢;exact V.okL.ren hp l h
 | .tup l,h=>by
   rw[dD2];simp only[V.ok]at h⊢;exact V.okL.ren hp l h
 | .sl l,h=>DL
 | .cap l,h=>DF
 | .own e l,h=>Dv
 | .ap e l,h=>D7
 | .box j off,h=>by
   show V.ok _ _ (.box (f j) off);simp only[V.ok]at h⊢;exact hp j h
 | .arr k g,h=>Dw
 | .fp l,h=>DN
 | .ae k g z i' o,h=>CZ
 | .fn g l,h=>by
   rw[eK1];simp only[V.ok]at h⊢;exact V.okL.ren hp l h
theorem V.okL.ren{p p':Nat->Prop}{q:Nat->Nat->Prop}{f:Nat->Nat}(hp:∀j,p j->p' (f j)):(l:List V)->V.okL p q l->V.okL p' q (l.map (V.ren f))
 | [],_=>by simp only[List.map_nil,V.okL]
 |x::r,h=>by
  simp only[List.map_cons,V.okL]at h⊢;exact⟨V.ok.ren hp x h.1,V.okL.ren hp r h.2⟩
end
section
variable{T:Tab}{P:Program}{Φ:Fr}{σ:St}{a:Act}{w w':World}{G G':Gh}{K:VK}{o:Oper}{d:Nat}
theorem Rv.ren{f:Nat->Nat}(hk:Keep w w G G'){v:Value}{x:V}(h:Rv w G v x):
 ∀ {p:Nat->Prop},x.ok p (fun _ _=>False)->(∀i,p i->G'.β (f i)=G.β i)->Rv w G' v (x.ren f):=by
 induction h with
 |bot v=>intros;exact .bot v
 |lit u h=>intros;exact .lit u h
 |agg vs xs hl ho _ ih=>
  intro p hok hp;simp only[V.ok]at hok;rw[dH8];refine .agg vs _ AQ ho fun j c x hc hx=>?_;exact NE
 |tup vs xs hl _ ih=>
  intro p hok hp;simp only[V.ok]at hok;rw[dD2];refine .tup vs _ AQ fun j c x hc hx=>?_;exact NE
 |slN=>intros;exact .slN
 |slS a c l sz cc h1 h2 h3 h4 h5 h6 _=>
  intro p hok hp;exact(Rv.slS a c l sz cc h1 h2 h3 h4 h5 h6).aW hk AP
 |capN=>intros;exact .capN
 |capS a l sz cc h2 h3 h4 h5 h6 _=>
  intro p hok hp;exact(Rv.capS a l sz cc h2 h3 h4 h5 h6).aW hk AP
 |box j off=>
  intro p hok hp;simp only[V.ok]at hok;rw[<-hp j hok];exact .box (f j) off
 |arr k g h=>
  intro p hok hp;simp only[V.ok]at hok
 |fp a l cc h1 h2 h3 _=>
  intro p hok hp;exact(Rv.fp a l cc h1 h2 h3).aW hk AP
 |ae k g sz j off a n c h=>
  intro p hok hp;simp only[V.ok]at hok
 |fn g lb caps hl _ ih=>
  intro p hok hp;simp only[V.ok]at hok;rw[eK1];refine .fn g lb _ AQ fun j c x hc hx=>?_;rw[List.getElem?_map]at hx
  cases hy:caps[j]? with
  |none=>rw[hy]at hx;cases hx
  |some y=>exact Ik
 |fb g fs caps hl _ ih=>
  intro p hok hp;simp only[V.ok,V.okL]at hok;rw[eK1];refine .fb g fs (caps.map (V.ren f)) AQ fun j c x hc hx=>?_;rw[List.getElem?_map]at hx
  cases hy:caps[j]? with
  |none=>rw[hy]at hx;cases hx
  |some y=>
   rw[hy]at hx;simp only[Option.map_some,Option.some.injEq]at hx;subst hx;exact ih j c y hc hy (aH.1 hok.2 y (List.mem_of_getElem? hy)) hp
 |mp b ents clock g kz es val h1 h2 h3 h4 h5 h6 _=>
  intro p hok hp;exact(Rv.mp b ents clock g kz es val h1 h2 h3 h4 h5 h6).aW hk Es
abbrev Grp:=List (List V×List V)
def PosG(gs:Grp)(γ q k:Nat):Prop:=∃g,gs[γ]? =some g/\zW g.1 g.2 q k
theorem aT8{ys xs:List V}{k:Nat}:k∈bD ys xs↔∃q,zW xs ys q k:=by
 rw[oZ];constructor
 ·rintro⟨i,x,y,h⟩;exact⟨i,x,y,h⟩
 ·rintro⟨i,x,y,h⟩;exact⟨i,x,y,h⟩
theorem bT5(g:List V×List V)(gs:Grp):ownG (g::gs)=bD g.2 g.1++ownG gs:=by
 have:ownG (g::gs)=appR (bD g.2 g.1) (ownG gs):=rfl;rw[this,bT]
theorem cX2(g:List V×List V)(gs:Grp):mF (g::gs)=bK g.2 g.1++mF gs:=by
 have:mF (g::gs)=appR (bK g.2 g.1) (mF gs):=rfl;rw[this,bT]
theorem aP0{gs:Grp}{k:Nat}:k∈ownG gs↔∃γ q,PosG gs γ q k:=by
 induction gs with
 |nil=>
  have:ownG [] =[] :=rfl;rw[this];constructor
  ·intro h;cases h
  ·rintro⟨γ,q,g,h,_⟩;simp at h
 |cons g gs ih=>
  rw[bT5,List.mem_append,ih,aT8];constructor
  ·rintro(⟨q,h⟩|⟨γ,q,h⟩)
   ·exact⟨0,q,g,rfl,h⟩
   ·obtain⟨g',h1,h2⟩:=h
    exact⟨γ+1,q,g',h1,h2⟩
  ·rintro⟨γ,q,g',h1,h2⟩
   cases γ with
   |zero=>simp at h1;subst h1;exact .inl ⟨q,h2⟩
   |succ γ=>exact .inr ⟨γ,q,g',h1,h2⟩
theorem aS8{gs:Grp}{k:Nat}:k∈mF gs↔∃(γ:Nat) (g:List V×List V),gs[γ]? =some g/\k∈bK g.2 g.1:=by
 induction gs with
 |nil=>
  have:mF [] =[] :=rfl;rw[this];constructor
  ·intro h;cases h
  ·rintro⟨γ,g,h,_⟩;simp at h
 |cons g gs ih=>
  rw[cX2,List.mem_append,ih];constructor
  ·rintro(h|⟨γ,g',h1,h2⟩)
   ·exact⟨0,g,rfl,h⟩
   ·exact⟨γ+1,g',h1,h2⟩
  ·rintro⟨γ,g',h1,h2⟩
   cases γ with
   |zero=>simp at h1;subst h1;exact .inl h2
   |succ γ=>exact .inr ⟨γ,g',h1,h2⟩
theorem aA3{gs:Grp}(hn:(ownG gs).Nodup){γ q γ' q' k:Nat}(h:PosG gs γ q k)(h':PosG gs γ' q' k):γ=γ'/\q=q':=by
 induction gs generalizing γ γ' with
 |nil=>obtain⟨g,h,_⟩:=h;simp at h
 |cons g gs ih=>
  rw[bT5,List.nodup_append]at hn;obtain⟨n1,n2,n3⟩:=hn
  have head:∀ {γ q q'},PosG (g::gs) 0 q k->PosG (g::gs) (γ+1) q' k->False:=by
   rintro γ q q' ⟨g0,a1,a2⟩ ⟨g1,b1,b2⟩;simp at a1;subst a1;exact n3 k (aT8.2 ⟨q,a2⟩) k (aP0.2 ⟨γ,q',g1,by simpa using b1,b2⟩) rfl
  cases γ with
  |zero=>
   cases γ' with
   |zero=>
    obtain⟨g0,a1,a2⟩:=h;obtain⟨g1,b1,b2⟩:=h';simp at a1 b1;subst a1;subst b1;exact⟨rfl,aK3 n1 a2 b2⟩
   |succ γ'=>exact(head h h').elim
  |succ γ=>
   cases γ' with
   |zero=>exact(head h' h).elim
   |succ γ'=>
    obtain⟨g0,a1,a2⟩:=h;obtain⟨g1,b1,b2⟩:=h';obtain⟨e1,e2⟩:=ih n2 ⟨g0,by simpa using a1,a2⟩ ⟨g1,by simpa using b1,b2⟩
    exact⟨by rw[e1],e2⟩
theorem aB1{ar:Nat->Option AE}{is:List Nat}:∀ {ys xs:List V},bI2 T ar is ys xs->xs.length=ys.length/\∀(i:Nat) x y,xs[i]? =some x->ys[i]? =some y->aP8 T ar is x y:=by
 intro ys
 induction ys with
 |nil=>
  intro xs h;exact LU
 |cons y r ih=>
  intro xs h
  cases xs with
  |nil=>exact(h:False).elim
  |cons x xr=>
   obtain⟨h1,h2⟩:aP8 T ar is x y/\bI2 T ar is r xr:=h;exact Lm
theorem dO7{is:List Nat}:∀ {ys xs:List V},refL is ys xs->xs.length=ys.length/\∀(i:Nat) x y,xs[i]? =some x->ys[i]? =some y->bU9 is x y:=by
 intro ys
 induction ys with
 |nil=>
  intro xs h;exact LU
 |cons y r ih=>
  intro xs h
  cases xs with
  |nil=>exact(h:False).elim
  |cons x xr=>
   obtain⟨h1,h2⟩:bU9 is x y/\refL is r xr:=h;exact Lm
theorem aJ8{ar:Nat->Option AE}{is:List Nat}:∀ {gs:Grp},xM T ar is gs->∀(γ:Nat) (g:List V×List V),gs[γ]? =some g->bI2 T ar is g.2 g.1:=by
 intro gs
 induction gs with
 |nil=>intro _ γ g h;simp at h
 |cons g0 gs ih=>
  intro h γ g hg;obtain⟨h1,h2⟩:bI2 T ar is g0.2 g0.1/\xM T ar is gs:=h
  cases γ with
  |zero=>simp at hg;subst hg;exact h1
  |succ γ=>exact ih h2 γ g (by simpa using hg)
theorem aR3{bx:Nat->Option (List V)}:∀ {bs:List (List V)} {is:List Nat},is.length=bs.length->∀(j:Nat) (g:List V×List V),(eU bx bs is)[j]? =some g↔∃(i:Nat) (b:List V),is[j]? =some i/\bs[j]? =some b/\g=((bx i).getD [],b):=by
 intro bs
 induction bs with
 |nil=>
  intro is _ j g;have:eU bx [] is=[] :=rfl;rw[this];simp
 |cons b r ih=>
  intro is hl j g
  cases is with
  |nil=>simp at hl
  |cons i ir=>
   have e:eU bx (b::r) (i::ir)=((bx i).getD [],b)::eU bx r ir:=by
    show((match bx i with|some cs=>cs|none=> []),b)::eU bx r ir=_
    cases bx i<;>rfl
   rw[e]
   cases j with
   |zero=>
    simp only[List.getElem?_cons_zero,Option.some.injEq];constructor
    ·intro h;exact⟨i,b,rfl,rfl,h.symm⟩
    ·rintro⟨i',b',rfl,rfl,h⟩;exact h.symm
   |succ j=>
    simp only[List.getElem?_cons_succ];exact ih AQ j g
theorem dQ1{n j:Nat}{v:Value}{y:V}(h:Rb T w G j v y):RbB T w G n j v y:=by
 unfold Rb at h;unfold RbB;split
 ·exact h
 ·exact h
 ·rename_i h1 h2
  split at h
  ·exact(h1 _ _ rfl).elim
  ·exact(h2 _ _ rfl).elim
  ·exact⟨V.pure.ok h.1 _ _,h.2⟩
theorem aW7(inv:Inv T Φ σ a w G)(hkp:Keep w w G G'){is:List Nat}(hβ:∀b i,nth is (b-100000)=some i->100000<=b->G'.β b=G.β i){v:Value}{x y:V}{j:Nat}(h:aP8 T σ.ar is x y)(hv:Rv w G v x)(hok:x.ok σ.hasB σ.hasA)
 (hlent:linear y=false->∀k∈jQ x,∀b,G.O b= .ar k->G'.O b= .fz)(hgiven:linear y=true->∀k∈jQ x,∀b,G.O b= .ar k->G'.O b= .ar j):RbB T w G' is.length j v y:=by
 have ref:∀ {v:Value} {x y:V},bU9 is x y->Rv w G v x->x.ok σ.hasB σ.hasA->y.ok (fun i=>100000<=i/\i<100000+is.length) (fun _ _=>False)/\Rv w G' v y:=by
  intro v x y h hv hok;unfold bU9 at h;split at h
  ·rename_i b off
   split at h
   ·rename_i i off'
    obtain⟨h1,h2,rfl⟩:=h;have hb:100000<=b:=Nat.le_of_ble_eq_true h2;have h1':nth is (b-100000)=some i:=h1
    have hlt:b-100000<is.length:=by rw[uN]at h1';exact(List.getElem?_eq_some_iff.1 h1').1
    refine⟨by simp only[V.ok];omega,?_⟩
    rw[hv.bI6,<-hβ b i h1' hb];exact .box b _
   ·exact h.elim
  ·split at h
   ·subst h
    simp only[V.ok]at hok;exact⟨by simp only[V.ok];exact hok,hv.aW hkp Bq⟩
   ·exact h.elim
  ·split at h
   ·subst h
    exact⟨Bl,by rw[hv.bH];exact .lit _ hv.aZ3⟩
   ·exact h.elim
  ·split at h
   ·exact nomatch hv
   ·exact h.elim
  ·exact h.elim
 unfold aP8 at h;split at h
 ·exact⟨Bl, .bot v⟩
 ·exact ref h hv hok
 ·rename_i g ys
  split at h
  ·rename_i g' xs
   cases hmp:isMapC ys with
   |true=>
    rw[hmp]at h;obtain⟨rfl,rfl⟩:g'=g/\xs=ys:=h;have hp:=fn_atom_pure (g:=g') (l:=xs) (by show cond (isMapC xs) true _=true;rw[hmp];rfl) hok
    exact⟨hp.ok _ _,hv.aW hkp hp⟩
   |false=>
   rw[hmp]at h;obtain⟨rfl,h⟩:g'=g/\refL is ys xs:=h;obtain⟨hl,hh⟩:=dO7 h
   have hfc:isFnC xs=true:=by
    cases xs with
    |nil=>rfl
    |cons x0 xr=>
     cases x0 with
     |ap e l=>
      cases ys with
      |nil=>simp at hl
      |cons y0 yr=>
       have h0:=hh 0 (.ap e l) y0 rfl rfl;unfold bU9 at h0;split at h0<;>exact h0.elim
     |_=>rfl
   rcases hv.cU8 hfc with⟨lb,e1,e2,e3⟩|⟨fs,cs,e1,rfl,e2,e3⟩
   rotate_left
   ·obtain⟨zs,rfl⟩:∃zs,ys= .own 0 [] ::zs:=by
     cases ys with
     |nil=>simp at hl
     |cons z zs=>
      have h0:=hh 0 (.own 0 []) z rfl rfl;unfold bU9 at h0;split at h0<;>first|exact h0.elim|(simp at h0;obtain⟨rfl,rfl⟩:=h0;exact⟨zs,rfl⟩)
    simp only[V.ok,V.okL]at hok
    have each:∀(i:Nat) c y,fs[i]? =some c->zs[i]? =some y->y.ok (fun i=>100000<=i/\i<100000+is.length) (fun _ _=>False)/\Rv w G' c y:=by
     intro i c y hc hy;have hi:i<cs.length:=by simp only[List.length_cons]at hl;have:=(List.getElem?_eq_some_iff.1 hy).1;omega
     have hx:=List.getElem?_eq_getElem hi;exact ref (hh (i+1) _ y hx hy) (e3 i c _ hc hx) (aH.1 hok.2 _ (List.mem_of_getElem? hx))
    have hl2:cs.length=zs.length:=by simp only[List.length_cons]at hl;omega
    refine⟨?_,?_⟩
    ·simp only[V.ok,V.okL]
     refine⟨trivial,aH.2 fun y hy=>?_⟩;obtain⟨i,hi⟩:=List.getElem?_of_mem hy;have hic:i<fs.size:=by rw[e2,hl2];exact(List.getElem?_eq_some_iff.1 hi).1
     exact(each i fs[i] y (by simp[hic]) hi).1
    ·rw[e1]
     exact .fb g' fs zs (by rw[e2,hl2]) fun i c y hc hy=>(each i c y hc hy).2
   simp only[V.ok]at hok
   have each:∀(i:Nat) c y,lb[i]? =some c->ys[i]? =some y->y.ok (fun i=>100000<=i/\i<100000+is.length) (fun _ _=>False)/\Rv w G' c y:=by
    intro i c y hc hy;have hi:i<xs.length:=Em;have hx:=List.getElem?_eq_getElem hi
    exact ref (hh i _ y hx hy) (e3 i c _ hc hx) (aH.1 hok _ (List.mem_of_getElem? hx))
   refine⟨?_,?_⟩
   ·simp only[V.ok]
    refine aH.2 fun y hy=>?_;obtain⟨i,hi⟩:=List.getElem?_of_mem hy;have hic:i<lb.size:=DV
    exact(each i lb[i] y (by simp[hic]) hi).1
   ·rw[e1]
    exact .fn g' lb ys (by rw[e2,hl]) fun i c y hc hy=>(each i c y hc hy).2
  ·exact h.elim
 ·exact dQ1 (aJ2 inv hkp h hv hok hlent hgiven)
def oM(bx:Nat->Option (List V))(is:List Nat):List Mod:=is.map fun i=> .b i (((bx i).getD []).map fun _=>V.bot)
theorem bX5(bx:Nat->Option (List V)):∀(is:List Nat) (τ:St) (i:Nat),(τ.apps (oM bx is)).bx i=if i∈is then some (((bx i).getD []).map fun _=>V.bot)else τ.bx i:=by
 intro is
 induction is with
 |nil=>intro τ i;simp[oM,St.apps]
 |cons j r ih=>
  intro τ i;have e:τ.apps (oM bx (j::r))=((Mod.b j (((bx j).getD []).map fun _=>V.bot)).app τ).apps (oM bx r):=rfl;rw[e,ih];by_cases h1:i∈r
  ·simp[h1]
  ·by_cases h2:i=j
   ·subst h2
    simp only[h1,if_false,List.mem_cons,true_or,if_true];exact upd_same _ _ _
   ·simp only[h1,h2,if_false,List.mem_cons,or_self]
    exact upd_ne _ _ h2
theorem dI5(bx:Nat->Option (List V)):∀(is:List Nat) (τ:St),(τ.apps (oM bx is)).ar=τ.ar:=by
 intro is
 induction is with
 |nil=>intro τ;rfl
 |cons j r ih=>
  intro τ;have e:τ.apps (oM bx (j::r))=((Mod.b j (((bx j).getD []).map fun _=>V.bot)).app τ).apps (oM bx r):=rfl;rw[e,ih];rfl
theorem aL0{bx:Nat->Option (List V)}{gs:Grp}{is:List Nat}{bs:List (List V)}{r:V}(h:zA bx gs is bs r=true):
 (ownG gs).Nodup/\(∀k∈ownG gs,k∉mF gs)/\is.Nodup/\is.length=bs.length/\(∀i∈is,∃cs,bx i=some cs)/\(∀b∈bs,b.length<1000)/\is.length<=8/\∀rs,r= .tup rs->rs.length<1000:=by
 unfold zA at h;simp only[Bool.and_eq_true]at h;obtain⟨⟨⟨⟨⟨⟨⟨h1,h2⟩,h3⟩,h4⟩,h5⟩,h6⟩,h7⟩,h8⟩:=h;refine⟨uU.1 h1,fun k hk hm=>?_,uU.1 h3,?_,fun i hi=>?_,fun b hb=>?_,?_,?_⟩
 ·have:=dY.1 h2 k hk
  rw[pM.2 hm]at this;simp at this
 ·have:=Nat.eq_of_beq_eq_true h4
  rwa [iL,iL]at this
 ·exact Jm
 ·have:=blt (dY.1 h6 b hb)
  rwa [iL]at this
 ·rw[iL]at h7
  exact Nat.le_of_ble_eq_true h7
 ·rintro rs rfl
  have:=blt h8;rwa [iL]at this
set_option maxHeartbeats 1600000 in
theorem cS4(inv:Inv T Φ σ a w G){f:FuncId}{us:List Value}{xs:List V}(hul:us.length=xs.length)(hrel:∀(i:Nat) v x,us[i]? =some v->xs[i]? =some x->Rv w G v x/\x.ok σ.hasB σ.hasA){ys:List V}{is:List Nat}{bs:List (List V)}{r:V}{bs':List (List V)}
 {gs:Grp}(hgs:gs=(xs,ys)::eU σ.bx bs is)(hgive:xM T σ.ar is gs)(hcok:zA σ.bx gs is bs r=true)(hspec:aU2 T P f ys bs r bs'):
 Calls P f us.toArray w fun e w1=>∃v G1 G2,e= .returned v/\RrB T w1 G1 bs.length v r/\BxOk T w1 G1 bs'/\Inv T Φ (σ.apps (aV σ (mF gs)++aX σ (ownG gs)++oM σ.bx is)) a w1 G2/\
  (∀t b,G1.O b= .ar t->G2.O b= .ext/\Φ.mine b/\b<w1.heap.size)/\Keep w1 w1 G1 G2/\(∀(j:Nat) i,is[j]? =some i->G2.β i=G1.β (100000+j))/\
  (∀k,(σ.apps (aV σ (mF gs)++aX σ (ownG gs)++oM σ.bx is)).ar k=if k∈ownG gs then(σ.ar k).map bJ2 else if k∈mF gs then(σ.ar k).map frzE else σ.ar k)/\G2.av=G.av:=by
 obtain⟨hcall,hlens,hspec⟩:=hspec;obtain⟨hnd,hdisj,hni,hil,hisb,hblen,hi8,_⟩:=aL0 hcok;have hbl:bs'.length=bs.length:=Di;have g0:gs[0]? =some (xs,ys):=by rw[hgs];rfl
 have gj:∀(j:Nat) (i:Nat) b,is[j]? =some i->bs[j]? =some b->gs[j+1]? =some ((σ.bx i).getD [],b):=by
  intro j i b h1 h2;rw[hgs,List.getElem?_cons_succ];exact(aR3 hil j _).2 ⟨i,b,h1,h2,rfl⟩
 have hgv:∀(γ:Nat) (g:List V×List V),gs[γ]? =some g->g.1.length=g.2.length/\∀(q:Nat) x y,g.1[q]? =some x->g.2[q]? =some y->aP8 T σ.ar is x y:=fun γ g hg=>aB1 (aJ8 hgive γ g hg);generalize hok:ownG gs=ok at*;generalize hvk:mF gs=vk at*
 let pos:Nat->Nat:=fun k=> @dite _ (∃t,∃γ q,t=100000*γ+q/\PosG gs γ q k) (Classical.propDecidable _) (fun h=>h.choose) (fun _=>0)
 have hpos:∀ {γ q k},PosG gs γ q k->pos k=100000*γ+q:=by
  intro γ q k hp;exact Mc
 let bpos:Nat->Nat:=fun i=> @dite _ (∃j,is[j]? =some i) (Classical.propDecidable _) (fun h=>h.choose) (fun _=>0)
 have hbpos:∀ {j i:Nat},is[j]? =some i->bpos i=j:=by
  intro j i hj;have hex:∃j,is[j]? =some i:=⟨j,hj⟩;have e1:bpos i=hex.choose:=by simp only[bpos];rw[dif_pos hex]
  rw[e1];have h2:=hex.choose_spec;have hlt:=(List.getElem?_eq_some_iff.1 hj).1
  exact(List.getElem?_inj (List.getElem?_eq_some_iff.1 h2).1 hni).1 (h2.trans hj.symm)
 let Gc:Gh:={β:=fun b=>if 100000<=b then G.β (nthD is (b-100000))else G.β b,av:=G.av,O:=fun b=>match G.O b with| .fz=> .fz| .ar k=>if k∈vk then .fz else if k∈ok then .ar (pos k)else .ext| .bx i=>if i∈is/\b=G.β i then .bx (100000+bpos i)else .ext| .ext=> .ext}
 have c_fz:∀b,G.O b= .fz->Gc.O b= .fz:=fun b hb=>BA;have c_bx:∀b i,G.O b= .bx i->¬(i∈is/\b=G.β i)->Gc.O b= .ext:=fun b i hb hi=>by simp only[Gc];rw[hb];simp only;rw[if_neg hi]
 have c_bi:∀b (j:Nat) i,G.O b= .bx i->is[j]? =some i->b=G.β i->Gc.O b= .bx (100000+j):=fun b j i hb hj he=>by
  simp only[Gc];rw[hb];simp only;rw[if_pos ⟨List.mem_of_getElem? hj,he⟩,hbpos hj]
 have c_ext:∀b,G.O b= .ext->Gc.O b= .ext:=fun b hb=>BA;have c_vk:∀b k,G.O b= .ar k->k∈vk->Gc.O b= .fz:=fun b k hb hk=>Df
 have c_ok:∀b k,G.O b= .ar k->k∈ok->Gc.O b= .ar (pos k):=fun b k hb hk=>IZ;have c_no:∀b k,G.O b= .ar k->k∉vk->k∉ok->Gc.O b= .ext:=fun b k hb h1 h2=>by simp only[Gc];rw[hb];simp[h1,h2]
 have hβc:∀b i,nth is (b-100000)=some i->100000<=b->Gc.β b=G.β i:=by
  intro b i h1 h2;simp only[Gc];rw[if_pos h2];unfold nthD;rw[h1]
 have hβj:∀(j:Nat) i,is[j]? =some i->Gc.β (100000+j)=G.β i:=by
  intro j i hj;refine hβc _ i ?_ Aa;rw[uN,show 100000+j-100000=j from Aa];exact hj
 have c_cases:∀b,(Gc.O b= .fz/\(G.O b= .fz\/∃k∈vk,G.O b= .ar k))\/(∃k∈ok,G.O b= .ar k/\Gc.O b= .ar (pos k))\/(∃(j:Nat) (i:Nat),is[j]? =some i/\(G.O b= .bx i/\b=G.β i)/\Gc.O b= .bx (100000+j))\/Gc.O b= .ext:=by
  intro b
  cases hO:G.O b with
  |ext=>exact .inr (.inr (.inr (c_ext b hO)))
  |fz=>exact .inl ⟨c_fz b hO, .inl rfl⟩
  |bx i=>
   by_cases hi:i∈is/\b=G.β i
   ·obtain⟨j,hj⟩:=List.getElem?_of_mem hi.1
    exact .inr (.inr (.inl ⟨j,i,hj,⟨rfl,hi.2⟩,c_bi b j i hO hj hi.2⟩))
   ·exact .inr (.inr (.inr (c_bx b i hO hi)))
  |ar k=>
   by_cases h1:k∈vk
   ·exact .inl ⟨c_vk b k hO h1, .inr ⟨k,h1,rfl⟩⟩
   ·by_cases h2:k∈ok
    ·exact .inr (.inl ⟨k,h2,rfl,c_ok b k hO h2⟩)
    ·exact .inr (.inr (.inr (c_no b k hO h1 h2)))
 have hkc:Keep w w G Gc:=⟨c_fz,fun _ _=>rfl⟩;have htagc:∀b,Gc.O b≠ .ext->b<w.heap.size:=fun b hb=>inv.tag b (fun hO=>hb (c_ext b hO))
 have hboxes:∀(j:Nat) i,is[j]? =some i->∃cs c t,σ.bx i=some cs/\w.heap[G.β i]? =some (.cells c t (0,0))/\RvL w G c.toList cs/\G.O (G.β i)= .bx i:=by
  intro j i hj;obtain⟨cs,hcs⟩:=hisb i (List.mem_of_getElem? hj);obtain⟨c,t,q1,q2,q3⟩:=inv.box i cs hcs;exact⟨cs,c,t,hcs,q1,q2,q3⟩
 have hbxc:∀b i,Gc.O b= .bx i->100000<=i/\i<100000+bs.length/\b=Gc.β i:=by
  intro b i' hb;rcases c_cases b with⟨h,_⟩|⟨k,_,_,h⟩|⟨j,i,h1,h2,h3⟩|h
  ·rw[h]at hb;cases hb
  ·rw[h]at hb;cases hb
  ·rw[h3]at hb
   cases hb;have hlt:=(List.getElem?_eq_some_iff.1 h1).1;refine⟨Aa,Aa,?_⟩;rw[hβj j i h1];exact h2.2
  ·rw[h]at hb;cases hb
 have give:∀(γ q:Nat) (g:List V×List V) (v:Value) (x y:V),gs[γ]? =some g->g.1[q]? =some x->g.2[q]? =some y->Rv w G v x->x.ok σ.hasB σ.hasA->RbB T w Gc is.length (100000*γ+q) v y:=by
  intro γ q g v x y hg hx hy hv hxo;exact MP
 have hargs:∀(j:Nat) v y,us.toArray[j]? =some v->ys[j]? =some y->RbB T w Gc bs.length j v y:=by
  intro j v y hv hy;have hj:j<xs.length:=Dh;have hx:xs[j]? =some xs[j] :=List.getElem?_eq_getElem hj
  obtain⟨e1,e2⟩:=hrel j v _ AZ hx;have:=give 0 j (xs,ys) v _ y g0 hx hy e1 e2;rwa [Nat.mul_zero,Nat.zero_add,hil]at this
 have hbxok:BxOk T w Gc bs:=by
  intro j b hb;have hj:j<is.length:=by rw[hil];exact(List.getElem?_eq_some_iff.1 hb).1
  have hi:is[j]? =some is[j] :=List.getElem?_eq_getElem hj;obtain⟨cs,c,t,q1,q2,q3,q4⟩:=hboxes j _ hi;have hg:=gj j _ b hi hb
  have hgl:=(hgv _ _ hg).1;rw[q1]at hg hgl;simp only[Option.getD_some]at hg hgl;refine⟨?_,c,t,?_,?_,?_⟩
  ·rw[hβj j _ hi];exact c_bi _ j _ q4 hi rfl
  ·rw[hβj j _ hi];exact q2
  ·rw[<-hgl,<-q3.len];simp
  ·intro q v y hv hy
   have hq:q<cs.length:=by rw[hgl];exact(List.getElem?_eq_some_iff.1 hy).1
   have hx:cs[q]? =some cs[q] :=List.getElem?_eq_getElem hq;have hv':c.toList[q]? =some v:=AZ
   refine⟨q3.one v (List.mem_of_getElem? hv'),?_⟩;rw[<-hil];exact give (j+1) q _ v _ y hg hx hy (q3.rel q v _ hv' hx) (aH.1 (inv.wfB _ cs q1) _ (List.mem_of_getElem? hx))
 have hlay:T.lay w (fun b=>Gc.O b= .fz):=T.lay_mono (fun b hb=>⟨c_fz b (inv.F0 b hb),inv.frame b (inv.lay.2 b hb).1 (inv.lay.2 b hb).2⟩) inv.lay.1
 have hys:us.toArray.size=ys.length:=by
  have:=(hgv 0 _ g0).1;simp only[List.size_toArray];exact hul.trans this
 refine(hspec w Gc us.toArray hys htagc hbxc hbxok hargs hlay).mono ?_;rintro e w1 ⟨v,G1,rfl,hres,hbx1,hβ1,r1,r2,r4,r5,r6,r7,r8,r9⟩;have hlt:∀b,G.O b≠ .ext->b<w.heap.size:=inv.tag
 have same:∀b,b<w.heap.size->(∀k,G.O b= .ar k->k∉ok)->(∀i,G.O b= .bx i->¬(i∈is/\b=G.β i))->w1.heap[b]? =w.heap[b]? :=fun b hb hh hh2=>r5 b hb (fun j hj=>by
  rcases c_cases b with⟨h,_⟩|⟨k,h1,h2,_⟩|⟨j,i,h1,h2,h3⟩|h
  ·rw[h]at hj;cases hj
  ·exact hh k h2 h1
  ·rw[h3]at hj;cases hj
  ·rw[h]at hj;cases hj) (fun i' hi'=>by
  rcases c_cases b with⟨h,_⟩|⟨k,_,_,h⟩|⟨j,i,h1,h2,h3⟩|h
  ·rw[h]at hi';cases hi'
  ·rw[h]at hi';cases hi'
  ·exact hh2 i h2.1 ⟨List.mem_of_getElem? h1,h2.2⟩
  ·rw[h]at hi';cases hi')
 have g1_old:∀b,b<w.heap.size->Gc.O b= .ext->G1.O b= .ext:=by
  intro b hb hc
  cases hO:G1.O b with
  |ext=>rfl
  |_=>
   exfalso;rcases r4 b FO with⟨h1,_⟩|h1|⟨j,h1⟩|⟨i,h1,_⟩
   ·rw[hc]at h1;cases h1
   ·omega
   ·rw[hc]at h1;cases h1
   ·rw[hc]at h1;cases h1
 have g1_bx:∀b (j:Nat) i,is[j]? =some i->b=G.β i->G1.O b= .bx (100000+j):=by
  intro b j i hj hbe;have hjl:j<bs'.length:=Dx;have:=(hbx1 j bs'[j] (List.getElem?_eq_getElem hjl)).1
  rw[hβ1 j (by rw[<-hbl];exact hjl),hβj j i hj,<-hbe]at this
  exact this
 let G2:Gh:={G with O:=fun b=> @ite _ (G1.O b= .fz) (Classical.propDecidable _) .fz (match G.O b with| .bx i=> .bx i| .ar k=>if k∈ok then .ext else .ar k|_=> .ext)}
 have d_fz:∀b,G1.O b= .fz->G2.O b= .fz:=fun b h1=>by simp only[G2];rw[if_pos h1]
 have d_else:∀b,G1.O b≠ .fz->G2.O b=(match G.O b with| .bx i=> .bx i| .ar k=>if k∈ok then .ext else .ar k|_=> .ext):=fun b h=>by simp only[G2];rw[if_neg h]
 have d_Gfz:∀b,G.O b= .fz->G2.O b= .fz:=fun b hb=>d_fz b (r1 b (c_fz b hb))
 have d_bx:∀b i,G.O b= .bx i->G2.O b= .bx i:=fun b i hb=>by
  have hne:G1.O b≠ .fz:=by
   by_cases hi:i∈is/\b=G.β i
   ·obtain⟨j,hj⟩:=List.getElem?_of_mem hi.1
    rw[g1_bx b j i hj hi.2];simp
   ·rw[g1_old b (hlt b Au) (c_bx b i hb hi)];simp
  rw[d_else b hne,hb]
 have d_ar:∀b k,G.O b= .ar k->k∉ok->k∉vk->G2.O b= .ar k:=fun b k hb h1 h2=>by
  have hne:G1.O b≠ .fz:=by rw[g1_old b (hlt b (by rw[hb];simp)) (c_no b k hb h2 h1)];simp
  rw[d_else b hne,hb];simp[h1]
 have hkeep:Keep w w1 G G2:=⟨d_Gfz,fun b hb=>same b (hlt b Au) (fun k hk=>by rw[hb]at hk;cases hk) (fun i hi=>by rw[hb]at hi;cases hi)⟩
 let fm:List Mod:=aV σ vk
 let dm:List Mod:=aX σ ok
 have hmA:∀m∈fm++dm,∃k en,m= .a k en:=by
  intro m hm;rcases List.mem_append.1 hm with hm|hm
  ·exact bF7 σ vk m hm
  ·exact aS3 σ ok m hm
 have hbx2:∀i,(σ.apps (fm++dm++oM σ.bx is)).bx i=if i∈is then some (((σ.bx i).getD []).map fun _=>V.bot)else σ.bx i:=fun i=>by
  rw[dO,bX5,aR5 σ _ hmA]
 have har1:∀k,(σ.apps fm).ar k=if k∈vk then(σ.ar k).map frzE else σ.ar k:=fun k=>cH2 σ σ vk (fun _=> .inl rfl) k
 have har2:∀k,(σ.apps (fm++dm++oM σ.bx is)).ar k=if k∈ok then(σ.ar k).map bJ2 else if k∈vk then(σ.ar k).map frzE else σ.ar k:=by
  intro k;rw[dO,dI5,dO,bP7 σ (σ.apps fm) ok (fun k' hk' hn=>by rw[har1,hn];simp) k,har1]
 have hgen:∀k en,σ.ar k=some en->∃en2,(σ.apps (fm++dm++oM σ.bx is)).ar k=some en2/\en2.gen=en.gen:=by
  intro k en hen;exact OD
 have hA2:∀k g,σ.hasA k g->(σ.apps (fm++dm++oM σ.bx is)).hasA k g:=fun k g ⟨en,h1,h2⟩=>by
  exact O4
 have inv2:Inv T Φ (σ.apps (fm++dm++oM σ.bx is)) a w1 G2:=by
  refine inv.change (vM σ _) hkeep (fun _ _=>rfl) (fun _ _ _=>rfl) (fun i hi=>?_) hA2 ?_ ?_ ?_ ?_ ?_ r6 r7 r8 r9
  ·obtain⟨x,hx⟩:=hi
   unfold St.hasB;rw[hbx2];split
   ·exact⟨_,rfl⟩
   ·exact⟨x,hx⟩
  ·intro i cs hi
   rw[hbx2]at hi;split at hi
   ·rename_i him
    cases hi;obtain⟨j,hj⟩:=List.getElem?_of_mem him;obtain⟨cs,c0,t0,q1,q2,q3,q4⟩:=hboxes j i hj;have hjl:j<bs'.length:=Dx;obtain⟨p1,c,t,p2,p3,p4⟩:=hbx1 j bs'[j] (List.getElem?_eq_getElem hjl);have hβe:G1.β (100000+j)=G.β i:=by rw[hβ1 j (by rw[<-hbl];exact hjl),hβj j i hj]
    rw[hβe]at p2;have hjb:j<bs.length:=by rw[<-hbl];exact hjl
    have hlen:bs'[j].length=cs.length:=by
     have e1:(bs'.map List.length)[j]? =some bs'[j].length:=by simp[hjl]
     rw[hlens]at e1;have e2:(bs.map List.length)[j]? =some bs[j].length:=by simp[hjb]
     rw[e2]at e1;have:=(hgv _ _ (gj j i bs[j] hj (List.getElem?_eq_getElem hjb))).1;rw[q1]at this;simp only[Option.getD_some]at this;rw[this];exact(Option.some.inj e1).symm
    refine .inr ⟨⟨c,t,p2,⟨?_,?_,?_⟩,d_bx _ i q4⟩,?_⟩
    ·rw[q1];simp[p3,hlen]
    ·intro u hu
     obtain⟨q,hq⟩:=List.getElem?_of_mem hu;have hq2:q<bs'[j].length:=by rw[<-p3];simpa using(List.getElem?_eq_some_iff.1 hq).1
     exact(p4 q u _ BX (List.getElem?_eq_getElem hq2)).1
    ·intro q u x hu hx
     rw[List.getElem?_map]at hx
     cases hy:((σ.bx i).getD [])[q]? with
     |none=>rw[hy]at hx;cases hx
     |some y=>rw[hy]at hx;simp only[Option.map_some,Option.some.injEq]at hx;subst hx;exact .bot u
    ·refine aH.2 fun x hx=>?_
     obtain⟨y,_,rfl⟩:=List.mem_map.1 hx;simp only[V.ok]
   ·rename_i him
    obtain⟨c,t,q1,q2,q3⟩:=inv.box i cs hi;exact .inl ⟨hi,d_bx _ i q3,same _ (hlt _ FP) (fun k hk=>by rw[q3]at hk;cases hk) (fun i' hi'=>by rw[q3]at hi';cases hi';exact fun h=>him h.1)⟩
  ·intro k en hen
   rw[har2]at hen;by_cases hk1:k∈ok
   ·exact IK
   ·rw[if_neg hk1]at hen
    have same_ar:∀b,G.O b= .ar k->w1.heap[b]? =w.heap[b]? :=fun b hb=>same b (hlt b Au) (fun k' hk'=>by rw[hb]at hk';cases hk';exact hk1) (fun i hi=>by rw[hb]at hi;cases hi)
    by_cases hk2:k∈vk
    ·rw[if_pos hk2]at hen
     cases hs:σ.ar k with
     |none=>rw[hs]at hen;cases hen
     |some en0=>
      rw[hs]at hen;simp at hen;have hp:=inv.wfA k en0 hs;have hokk:=inv.arr k en0 hs
      have hfzb:∀b,G.O b= .ar k->G2.O b= .fz:=fun b hb=>d_fz b (r1 b (c_vk b k hb hk2))
      have own:∀ {ty},gJ T w G k (G.av k en0.gen) ty en0.l->Rv w1 G2 (G.av k en0.gen) (.sl en0.l):=by
       intro ty hown;rcases hown with⟨e1,e2⟩|⟨b,cap,cur,e1,e2,e3,e4,e5,e6,e7,e8⟩
       ·rw[e2];exact bA2 e1
       ·obtain⟨cc,q1,q2⟩:=(e8.here e3).out
        rw[e1];refine .slS _ cap en0.l _ cc e4 e5 (fun _=>hfzb b e2) e7 (fun j y hy=>?_) (fun j y hy=>(q2 j y hy).aW hkeep (dF hp hy));refine⟨?_,(q1 j y hy).2⟩;rw[<-(q1 j y hy).1];exact World.cell?_of_block (by rw[add_block];exact same_ar b e2)
      exact LD
    ·rw[if_neg hk2]at hen
     exact .inl ⟨hen,fun b hb=>⟨d_ar b k hb hk1 hk2,same_ar b hb⟩⟩
  ·intro b hb
   by_cases hc:G1.O b= .fz
   ·exact r2 b (by rw[hc];simp)
   ·exact J5
  ·intro b
   by_cases hc:G1.O b= .fz
   ·rcases r4 b (by rw[hc];simp)with⟨h1,_⟩|h1|⟨j,h1⟩|⟨i,_,h2⟩
    ·rcases c_cases b with⟨_,h2|⟨k,h2,h3⟩⟩|⟨k,_,_,h⟩|⟨j,i,_,_,h⟩|h
     ·exact .inl (by rw[d_fz b hc,h2])
     ·exact .inr (.inr (inv.mineA b k h3))
     ·rw[h1]at h;cases h
     ·rw[h1]at h;cases h
     ·rw[h1]at h;cases h
    ·exact .inr (.inr (.inl (Nat.le_trans inv.size h1)))
    ·rcases c_cases b with⟨h,_⟩|⟨k,_,h3,_⟩|⟨j,i,_,_,h⟩|h
     ·rw[h1]at h;cases h
     ·exact .inr (.inr (inv.mineA b k h3))
     ·rw[h1]at h;cases h
     ·rw[h1]at h;cases h
    ·rw[hc]at h2;cases h2
   ·exact IJ
  ·intro b
   rcases Nat.lt_or_ge b w.heap.size with hb|hb
   ·by_cases hh:∃k∈ok,G.O b= .ar k
    ·obtain⟨k,_,h2⟩:=hh
     exact .inr (inv.mineA b k h2)
    ·by_cases hh2:∃i∈is,G.O b= .bx i
     ·obtain⟨i,_,h2⟩:=hh2
      exact .inr (inv.mineB b i h2)
     ·exact .inl (same b hb (fun k hk hm=>hh ⟨k,hm,hk⟩) (fun i hi hm=>hh2 ⟨i,hm.1,hi⟩))
   ·exact .inr (.inl (Nat.le_trans inv.size hb))
 have hpend:∀t b,G1.O b= .ar t->G2.O b= .ext/\Φ.mine b/\b<w1.heap.size:=by
  intro t b hb;have hne:G1.O b≠ .fz:=Au;have hsz:=r2 b Au
  rcases r4 b Au with⟨_,h1⟩|h1|⟨j,h1⟩|⟨i,_,h1⟩
  ·rw[hb]at h1;cases h1
  ·exact JC
  ·rcases c_cases b with⟨h,_⟩|⟨k,h2,h3,_⟩|⟨j,i,_,_,h⟩|h
   ·rw[h1]at h;cases h
   ·exact⟨by rw[d_else b hne,h3];simp[h2],inv.mineA b k h3,hsz⟩
   ·rw[h1]at h;cases h
   ·rw[h1]at h;cases h
  ·rw[hb]at h1;cases h1
 refine⟨v,G1,G2,rfl,hres,hbx1,inv2,hpend,⟨d_fz,fun _ _=>rfl⟩,fun j i hj=>?_,har2,rfl⟩;have hjl:j<bs.length:=DW
 rw[hβ1 j hjl,hβj j i hj]
end
section
variable{T:Tab}{P:Program}{Φ:Fr}{σ:St}{a:Act}{w w':World}{G G':Gh}{K:VK}{o:Oper}{d:Nat}
def Lent(n i:Nat):Prop:=100000<=i/\i<100000+n
theorem zL(ar:Nat->Option AE)(is ok:List Nat)(y:V)(r:List V)(x:V)(xr:List V)(N:Nat)(K:List V->List Mod->Prop):oJ ar is ok (y::r) (x::xr) N K=(match y with
        | .own e l=>xO ar ok N .own e l x fun v m=>oJ ar is ok r xr (N+1000) fun vs ms=>K (v::vs) (m::ms)
        | .ap e l=>xO ar ok N .ap e l x fun v m=>oJ ar is ok r xr (N+1000) fun vs ms=>K (v::vs) (m::ms)
        |y=>force (y.ren (renF is)) fun v=>oJ ar is ok r xr (N+1000) fun vs ms=>K (v::vs) ms):=rfl
theorem aT3{ar:Nat->Option AE}{ok:List Nat}{N:Nat}{kd:AK}{e:TypeId}{l:List V}{x:V}{K:V->Mod->Prop}(h:xO ar ok N kd e l x K):
 (∃k g en,x= .arr k g/\k∈ok/\ar k=some en/\K (.arr k (en.gen+1)) (.a k ⟨en.gen+1,kd,e,l⟩))\/(ar N=none/\K (.arr N 0) (.a N ⟨0,kd,e,l⟩)):=by
 unfold xO at h;split at h
 ·rename_i k g
  split at h
  ·rename_i hm
   split at h
   ·rename_i en hen
    exact .inl ⟨k,g,en,rfl,pM.1 hm,hen,h⟩
   ·exact h.elim
  ·split at h
   ·rename_i hn;exact .inr ⟨hn,h⟩
   ·exact h.elim
 ·split at h
  ·rename_i hn;exact .inr ⟨hn,h⟩
  ·exact h.elim
theorem bJ5{ar:Nat->Option AE}{ok:List Nat}{N:Nat}{kd:AK}{e:TypeId}{l:List V}{x:V}{K K':V->Mod->Prop}(hk:∀v m,K v m->K' v m)(h:xO ar ok N kd e l x K):xO ar ok N kd e l x K':=by
 unfold xO at*;split at h
 ·split at h
  ·split at h
   ·exact hk _ _ h
   ·exact h.elim
  ·split at h
   ·exact hk _ _ h
   ·exact h.elim
 ·split at h
  ·exact hk _ _ h
  ·exact h.elim
theorem cQ2{ar:Nat->Option AE}{is ok:List Nat}:∀ {ys xs:List V} {N:Nat} {K K':List V->List Mod->Prop},(∀vs ms,K vs ms->K' vs ms)->oJ ar is ok ys xs N K->oJ ar is ok ys xs N K':=by
 intro ys
 induction ys with
 |nil=>
  intro xs N K K' hk h
  cases xs with
  |nil=>exact hk _ _ h
  |cons x r=>exact(h:False).elim
 |cons y r ih=>
  intro xs N K K' hk h
  cases xs with
  |nil=>exact(h:False).elim
  |cons x xr=>
   rw[zL]at h⊢;split at h
   ·exact bJ5 (fun v m h=>ih (fun vs ms=>hk _ _) h) h
   ·exact bJ5 (fun v m h=>ih (fun vs ms=>hk _ _) h) h
   ·rw[force_eq]at h⊢
    exact ih (fun vs ms=>hk _ _) h
set_option maxHeartbeats 1600000 in
theorem aU0{Gx:Gh}{σ0:St}{is ok:List Nat}{n:Nat}:∀(ys olds:List V) (N t:Nat) (σ:St) (G:Gh) (us:List Value) (K:List V->List Mod->Prop),
 Inv T Φ σ a w G->us.length=ys.length->(∀q,q<ys.length->σ0.ar (N+1000*q)=none->σ.ar (N+1000*q)=none)->
 (∀(q:Nat) k g en,olds[q]? =some (.arr k g)->k∈ok->σ0.ar k=some en->∀g',σ.hasA k g'->g'<=en.gen)->
 (∀(q q':Nat) k g g',olds[q]? =some (.arr k g)->olds[q']? =some (.arr k g')->k∈ok->q=q')->
 (∀(i:Nat) u y,us[i]? =some u->ys[i]? =some y->RbB T w Gx n (t+i) u y)->Keep w w Gx G->(∀i,Lent n i->G.β (renF is i)=Gx.β i/\σ.hasB (renF is i))->
 (∀i b,i<ys.length->Gx.O b= .ar (t+i)->G.O b= .ext/\Φ.mine b/\b<w.heap.size)->oJ σ0.ar is ok ys olds N K->
 ∃vs ms G',K vs ms/\Inv T Φ (σ.apps ms) a w G'/\vs.length=ys.length/\(∀(i:Nat) u v,us[i]? =some u->vs[i]? =some v->Rv w G' u v/\v.ok (σ.apps ms).hasB (σ.apps ms).hasA)/\
  G'.β=G.β/\(∀k g,σ.hasA k g->G'.av k g=G.av k g)/\(∀b,G.O b≠ .ext->G'.O b=G.O b)/\(∀b,(∀i,i<ys.length->Gx.O b≠ .ar (t+i))->G'.O b=G.O b)/\
  (∀k g,σ.hasA k g->(σ.apps ms).hasA k g)/\(σ.apps ms).bx=σ.bx/\
  (∀k,(∀q,q<ys.length->σ0.ar (N+1000*q)=none->k≠N+1000*q)->(∀(q:Nat) g,olds[q]? =some (.arr k g)->k∉ok)->(σ.apps ms).ar k=σ.ar k):=by
 intro ys
 induction ys with
 |nil=>
  intro olds N t σ G us K inv hl _ _ _ _ _ _ _ h;have hus:us=[] :=List.eq_nil_of_length_eq_zero AQ;subst hus
  cases olds with
  |nil=>exact⟨[],[],G,h,inv,rfl,fun i u v hu=>by simp at hu,rfl,fun _ _ _=>rfl,fun _ _=>rfl,fun _ _=>rfl,fun _ _ h=>h,rfl,fun _ _ _=>rfl⟩
  |cons x r=>exact(h:False).elim
 |cons y r ih=>
  intro olds N t σ G us K inv hl hfresh hre huniq hrb hkx hβ hpend h
  cases olds with
  |nil=>exact(h:False).elim
  |cons x xr=>
  cases us with
  |nil=>simp at hl
  |cons u ur=>
   have hl':ur.length=r.length:=AQ
   have hrb':∀(i:Nat) u y,ur[i]? =some u->r[i]? =some y->RbB T w Gx n (t+1+i) u y:=fun i u y hu hy=>by
    have:=hrb (i+1) u y AX CJ;rwa [show t+(i+1)=t+1+i from Aa]at this
   have take:∀(k g:Nat) (kd:AK) (e:TypeId) (l:List V),(kd= .own\/kd= .ap)->(∀g',σ.hasA k g'->g'<g)->(∀q,q<r.length->σ0.ar (N+1000+1000*q)=none->k≠N+1000+1000*q)->
    (∀(q:Nat) k' g' en,xr[q]? =some (.arr k' g')->k'∈ok->σ0.ar k'=some en->k'≠k)->
    ((∃g0,x= .arr k g0/\k∈ok)\/(k=N/\σ0.ar N=none))->e<T.n e->bM l->
    (gJ T w Gx t u e l\/(kd= .ap/\Rv w Gx u (.cap l)/\∀x∈l,x.cells.length=(T.row e).size))->
    (oJ σ0.ar is ok r xr (N+1000) fun vs ms=>K (.arr k g::vs) (.a k ⟨g,kd,e,l⟩::ms))->
    ∃vs ms G',K vs ms/\Inv T Φ (σ.apps ms) a w G'/\vs.length=(y::r).length/\(∀(i:Nat) u' v,(u::ur)[i]? =some u'->vs[i]? =some v->Rv w G' u' v/\v.ok (σ.apps ms).hasB (σ.apps ms).hasA)/\
     G'.β=G.β/\(∀k g,σ.hasA k g->G'.av k g=G.av k g)/\(∀b,G.O b≠ .ext->G'.O b=G.O b)/\(∀b,(∀i,i< (y::r).length->Gx.O b≠ .ar (t+i))->G'.O b=G.O b)/\
     (∀k g,σ.hasA k g->(σ.apps ms).hasA k g)/\(σ.apps ms).bx=σ.bx/\
     (∀k,(∀q,q< (y::r).length->σ0.ar (N+1000*q)=none->k≠N+1000*q)->(∀(q:Nat) g,(x::xr)[q]? =some (.arr k g)->k∉ok)->(σ.apps ms).ar k=σ.ar k):=by
    intro k g kd e l hkd hno hne hne2 hwhich he hp hown hrest;obtain⟨G1,inv1,a1,a2,a3,a4,a5⟩:=inv.eV5 (k:=k) (gen:=g) hno hkd he hp hown hkx (fun b hb=>hpend 0 b Ae CO);have hA1:∀k' g',σ.hasA k' g'->(σ.apps [.a k ⟨g,kd,e,l⟩]).hasA k' g':=fun k' g' hh=>Jk
    have har1:∀k',k'≠k->(σ.apps [.a k ⟨g,kd,e,l⟩]).ar k'=σ.ar k':=fun k' e1=>upd_ne _ _ e1;have hO1:∀b,G.O b≠ .ext->G1.O b=G.O b:=fun b hb=>a3 b (fun hb2=>hb (hpend 0 b Ae (by simpa using hb2)).1)
    have hkp1:Keep w w G G1:=⟨fun b hb=>(hO1 b Au).trans hb,fun _ _=>rfl⟩
    obtain⟨vs,ms,G',b1,b2,b3,b4,b5,b6,b7,b8,b9,b10,b11⟩:=ih xr (N+1000) (t+1) (σ.apps [.a k ⟨g,kd,e,l⟩]) G1 ur _ inv1 hl'
     (fun q hq hn=>by
      rw[har1 _ (Ne.symm (hne q hq hn))];have:=hfresh (q+1) A8 Bj;rwa [show N+1000*(q+1)=N+1000+1000*q from Aa]at this)
     (fun q k' g' en hq hk hen g'' hh=>by
      have hkne:=hne2 q k' g' en hq hk hen;obtain⟨en',h1,h2⟩:=hh;rw[har1 _ hkne]at h1;exact hre (q+1) k' g' en BX hk hen g'' ⟨en',h1,h2⟩)
     (fun q q' k' g1 g2 hq hq' hk=>by
      have:=huniq (q+1) (q'+1) k' g1 g2 BX (by simpa using hq') hk
      omega)
     hrb' ⟨fun b hb=>hkp1.fz b (hkx.fz b hb),fun _ _=>rfl⟩
     (fun i hi=>⟨by rw[a4];exact(hβ i hi).1,(hβ i hi).2⟩)
     (fun i b hi hb=>by
      have hb':Gx.O b= .ar (t+(i+1)):=ET;have:=hpend (i+1) b A8 hb'
      refine⟨?_,this.2⟩;rw[a3 b (by rw[hb];intro e;have:=Tag.ar.inj e;omega)]
      exact this.1) hrest
    refine⟨_,_,G',b1,b2,by simp[b3],?_,b5.trans a4,fun k' g' hh=>(b6 k' g' (hA1 k' g' hh)).trans (a5 k' g' hh),fun b hb=>?_,fun b hb=>?_,fun k' g' hh=>b9 k' g' (hA1 k' g' hh),b10,fun k' h1 h2=>?_⟩
    ·intro i u' v hu hv
     cases i with
     |zero=>
      simp at hu hv;subst hu;subst hv;have hA:(σ.apps [.a k ⟨g,kd,e,l⟩]).hasA k g:=⟨_,upd_same _ _ _,Nat.le_refl _⟩;have e1:G'.av k g=u:=(b6 k g hA).trans a1
      refine⟨?_,by simp only[V.ok];exact b9 k g hA⟩
      rw[<-e1];exact .arr k g (by rw[e1];exact a2)
     |succ i=>exact b4 i u' v AX AZ
    ·have:=hO1 b hb
     rw[b7 b Gq];exact this
    ·rw[b8 b (fun i hi=>CS),a3 b (by simpa using hb 0 (by simp))]
    ·have hk':k'≠k:=by
      rintro rfl;rcases hwhich with⟨g0,hx,hk⟩|⟨rfl,hn⟩
      ·exact h2 0 g0 CW hk
      ·exact h1 0 Ae FV Ae
     have:=b11 k' (fun q hq hn=>by
      have:=h1 (q+1) A8 Bj;rwa [show N+1000*(q+1)=N+1000+1000*q from Aa]at this) (fun q g hq=>h2 (q+1) g BX)
     exact this.trans (har1 k' hk')
   have plain:linear y=false->(oJ σ0.ar is ok r xr (N+1000) fun vs ms=>K (y.ren (renF is)::vs) ms)->
    ∃vs ms G',K vs ms/\Inv T Φ (σ.apps ms) a w G'/\vs.length=(y::r).length/\(∀(i:Nat) u' v,(u::ur)[i]? =some u'->vs[i]? =some v->Rv w G' u' v/\v.ok (σ.apps ms).hasB (σ.apps ms).hasA)/\
     G'.β=G.β/\(∀k g,σ.hasA k g->G'.av k g=G.av k g)/\(∀b,G.O b≠ .ext->G'.O b=G.O b)/\(∀b,(∀i,i< (y::r).length->Gx.O b≠ .ar (t+i))->G'.O b=G.O b)/\
     (∀k g,σ.hasA k g->(σ.apps ms).hasA k g)/\(σ.apps ms).bx=σ.bx/\
     (∀k,(∀q,q< (y::r).length->σ0.ar (N+1000*q)=none->k≠N+1000*q)->(∀(q:Nat) g,(x::xr)[q]? =some (.arr k g)->k∉ok)->(σ.apps ms).ar k=σ.ar k):=by
    intro hly hrest
    obtain⟨vs,ms,G',b1,b2,b3,b4,b5,b6,b7,b8,b9,b10,b11⟩:=ih xr (N+1000) (t+1) σ G ur _ inv hl'
     (fun q hq hn=>by
      have:=hfresh (q+1) A8 Bj;rwa [show N+1000*(q+1)=N+1000+1000*q from Aa]at this)
     (fun q k' g' en hq hk hen=>hre (q+1) k' g' en BX hk hen)
     (fun q q' k' g1 g2 hq hq' hk=>by
      have:=huniq (q+1) (q'+1) k' g1 g2 BX (by simpa using hq') hk
      omega)
     hrb' hkx hβ
     (fun i b hi hb=>by
      have hb':Gx.O b= .ar (t+(i+1)):=ET;exact hpend (i+1) b A8 hb') hrest
    refine⟨_,_,G',b1,b2,by simp[b3],?_,b5,b6,b7,fun b hb=>b8 b (fun i hi=>CS),b9,b10,fun k' h1 h2=>?_⟩
    ·intro i u' v hu hv
     cases i with
     |zero=>
      simp at hu hv;subst hu;subst hv;have hb:=hrb 0 u y rfl rfl
      have hb':y.ok (Lent n) (fun _ _=>False)/\Rv w Gx u y:=by
       unfold RbB at hb;split at hb
       ·simp[linear]at hly
       ·simp[linear]at hly
       ·exact hb
      have hkp:Keep w w Gx G':=⟨fun b hb=>(b7 b (by rw[hkx.fz b hb];simp)).trans (hkx.fz b hb),fun _ _=>rfl⟩
      refine⟨hb'.2.ren hkp hb'.1 (fun i hi=>by rw[b5];exact(hβ i hi).1),?_⟩
      refine V.ok.imp (fun _ h=>h) (fun _ _ h=>h.elim) _ (V.ok.ren (p':=(σ.apps ms).hasB) (fun i hi=>?_) y hb'.1);unfold St.hasB;rw[b10];exact(hβ i hi).2
     |succ i=>exact b4 i u' v AX AZ
    ·exact b11 k' (fun q hq hn=>by
      have:=h1 (q+1) A8 Bj;rwa [show N+1000*(q+1)=N+1000+1000*q from Aa]at this) (fun q g hq=>h2 (q+1) g BX)
   have hb0:=hrb 0 u y rfl rfl;rw[Nat.add_zero]at hb0
   have go:∀(kd:AK) (e:TypeId) (l:List V),(kd= .own\/kd= .ap)->e<T.n e->bM l->(gJ T w Gx t u e l\/(kd= .ap/\Rv w Gx u (.cap l)/\∀x∈l,x.cells.length=(T.row e).size))->
    (xO σ0.ar ok N kd e l x fun v m=>oJ σ0.ar is ok r xr (N+1000) fun vs ms=>K (v::vs) (m::ms))->
    ∃vs ms G',K vs ms/\Inv T Φ (σ.apps ms) a w G'/\vs.length=(y::r).length/\(∀(i:Nat) u' v,(u::ur)[i]? =some u'->vs[i]? =some v->Rv w G' u' v/\v.ok (σ.apps ms).hasB (σ.apps ms).hasA)/\
     G'.β=G.β/\(∀k g,σ.hasA k g->G'.av k g=G.av k g)/\(∀b,G.O b≠ .ext->G'.O b=G.O b)/\(∀b,(∀i,i< (y::r).length->Gx.O b≠ .ar (t+i))->G'.O b=G.O b)/\
     (∀k g,σ.hasA k g->(σ.apps ms).hasA k g)/\(σ.apps ms).bx=σ.bx/\
     (∀k,(∀q,q< (y::r).length->σ0.ar (N+1000*q)=none->k≠N+1000*q)->(∀(q:Nat) g,(x::xr)[q]? =some (.arr k g)->k∉ok)->(σ.apps ms).ar k=σ.ar k):=by
    intro kd e l hkd he hp hown hA;rcases aT3 hA with⟨k,g,en,hx,hk,hen,hK⟩|⟨hn,hK⟩
    ·refine take k (en.gen+1) kd e l hkd (fun g' hg'=>Nat.lt_succ_of_le (hre 0 k g en CW hk hen g' hg')) (fun q _ hn e=>DJ) (fun q k' g' en' hq hk' hen' e=>?_) (.inl ⟨g,hx,hk⟩) he hp hown hK
     subst e;have:=huniq 0 (q+1) k' g g' CW BX hk';omega
    ·have hn':=hfresh 0 Ae FV
     rw[Nat.mul_zero,Nat.add_zero]at hn';exact take N 0 kd e l hkd (zK hn' 0) (fun q _ _=>Aa) (fun q k' g' en' _ _ hen' e=>by rw[e,hn]at hen';cases hen') (.inr ⟨rfl,hn⟩) he hp hown hK
   rw[zL]at h;split at h
   ·rename_i e l
    obtain⟨q1,q2,q3⟩:=hb0;exact go .own e l (.inl rfl) q1 q2 (.inl q3) h
   ·rename_i e l
    obtain⟨q1,q2,q3⟩:=hb0;exact go .ap e l (.inr rfl) q1 q2 (q3.imp id (fun h=>⟨rfl,h⟩)) h
   ·rename_i h1 h2
    rw[force_eq]at h;exact plain (oW h1 h2) h
theorem aJ1(bx:Nat->Option (List V))(ar:Nat->Option AE)(is0 ok:List Nat)(b:List V)(r:List (List V))(i:Nat)(ir:List Nat)(N:Nat)(K:List Mod->Prop):aB3 bx ar is0 ok (b::r) (i::ir) N K=(match bx i with
        |some cs=>oJ ar is0 ok b cs N fun vs ms=>aB3 bx ar is0 ok r ir (N+1000000) fun ns=>K (appR ms (.b i vs::ns))
        |none=>False):=rfl
set_option maxHeartbeats 1600000 in
theorem cI1{Gx:Gh}{σ0:St}{is ok:List Nat}{n:Nat}(hoks:∀k∈ok,σ0.ar k≠none):∀(bs:List (List V)) (ir:List Nat) (N t:Nat) (σ:St) (G:Gh) (K:List Mod->Prop),
 Inv T Φ σ a w G->
 (∀(j:Nat) b i,bs[j]? =some b->ir[j]? =some i->∃cs old c ty,σ0.bx i=some cs/\σ.bx i=some old/\w.heap[G.β i]? =some (.cells c ty (0,0))/\c.size=b.length/\b.length<1000/\
  ∀(q:Nat) v y,c[q]? =some v->b[q]? =some y->v.oneCell'=true/\RbB T w Gx n (t+100000*j+q) v y)->
 (∀(j:Nat) b,bs[j]? =some b->∀q,q<b.length->σ0.ar (N+1000000*j+1000*q)=none->σ.ar (N+1000000*j+1000*q)=none)->
 (∀(j:Nat) i cs (q:Nat) k g en,ir[j]? =some i->σ0.bx i=some cs->cs[q]? =some (.arr k g)->k∈ok->σ0.ar k=some en->∀g',σ.hasA k g'->g'<=en.gen)->
 (∀(j j':Nat) i i' cs cs' (q q':Nat) k g g',ir[j]? =some i->ir[j']? =some i'->σ0.bx i=some cs->σ0.bx i'=some cs'->cs[q]? =some (.arr k g)->cs'[q']? =some (.arr k g')->k∈ok->j=j'/\q=q')->
 Keep w w Gx G->(∀i,Lent n i->G.β (renF is i)=Gx.β i/\σ.hasB (renF is i))->
 (∀(j:Nat) b,bs[j]? =some b->∀q blk,q<b.length->Gx.O blk= .ar (t+100000*j+q)->G.O blk= .ext/\Φ.mine blk/\blk<w.heap.size)->aB3 σ0.bx σ0.ar is ok bs ir N K->
 ∃ns G',K ns/\Inv T Φ (σ.apps ns) a w G'/\G'.β=G.β/\(∀k g,σ.hasA k g->G'.av k g=G.av k g)/\(∀b,G.O b≠ .ext->G'.O b=G.O b)/\
  (∀k g,σ.hasA k g->(σ.apps ns).hasA k g)/\(∀i,σ.hasB i->(σ.apps ns).hasB i)/\∀i∈ir,∃cs,Mod.b i cs∈ns:=by
 intro bs
 induction bs with
 |nil=>
  intro ir N t σ G K inv _ _ _ _ _ _ _ h
  cases ir with
  |nil=>exact⟨[],G,h,inv,rfl,fun _ _ _=>rfl,fun _ _=>rfl,fun _ _ h=>h,fun _ h=>h,fun i hi=>by cases hi⟩
  |cons i r=>exact(h:False).elim
 |cons b r ih=>
  intro ir N t σ G K inv hbx hfresh hre huniq hkx hβ hpend h
  cases ir with
  |nil=>exact(h:False).elim
  |cons i ir=>
   rw[aJ1]at h;obtain⟨cs,old,c,ty,x1,x2,x3,x4,x4',x5⟩:=hbx 0 b i rfl rfl;rw[x1]at h;simp only at h;have hlen:c.toList.length=b.length:=by simpa using x4
   obtain⟨vs,ms,G1,b1,b2,b3,b4,b5,b6,b7,b8,b9,b10,b11⟩:=aU0 (Gx:=Gx) (σ0:=σ0) (is:=is) (ok:=ok) (n:=n) b cs N t σ G c.toList _ inv hlen
    (fun q hq hn=>by
     have:=hfresh 0 b rfl q hq FV;simpa using this)
    (fun q k g en hq hk hen=>hre 0 i cs q k g en rfl x1 hq hk hen)
    (fun q q' k g g' hq hq' hk=>(huniq 0 0 i i cs cs q q' k g g' rfl rfl x1 x1 hq hq' hk).2)
    (fun q u y hu hy=>by
     have:=(x5 q u y AX hy).2;simpa using this) hkx hβ
    (fun q blk hq hb=>hpend 0 b rfl q blk hq CO) h
   have hok1:V.okL (σ.apps ms).hasB (σ.apps ms).hasA vs:=aH.2 fun v hv=>by
    obtain⟨q,hq⟩:=List.getElem?_of_mem hv;have hlt:q<c.toList.length:=by rw[hlen,<-b3];exact(List.getElem?_eq_some_iff.1 hq).1
    exact(b4 q _ v (List.getElem?_eq_getElem hlt) hq).2
   have hrv:RvL w G1 c.toList vs:=⟨by rw[hlen,b3],fun u hu=>by
    obtain⟨q,hq⟩:=List.getElem?_of_mem hu;have hlt:q<b.length:=DK;exact(x5 q u _ BX (List.getElem?_eq_getElem hlt)).1,fun q u v hu hv=>(b4 q u v hu hv).1⟩
   have inv2:Inv T Φ ((σ.apps ms).apps [.b i vs]) a w G1:=b2.eJ4 (i:=i) (old:=old) (by rw[b10];exact x2) (c:=c) (t:=ty) hrv hok1 (by rw[b5];exact x3) (fun _ _=>rfl) rfl rfl rfl rfl
   have hB2:∀i',σ.hasB i'->((σ.apps ms).apps [.b i vs]).hasB i':=fun i' ⟨y,hy⟩=>by
    by_cases e:i'=i
    ·subst e;exact⟨vs,upd_same _ _ _⟩
    ·exact⟨y,by show upd (σ.apps ms).bx i _ i'=_;rw[upd_ne _ _ e,b10];exact hy⟩
   have har2:((σ.apps ms).apps [.b i vs]).ar=(σ.apps ms).ar:=rfl
   have hkeys:∀(j:Nat) i' cs' (q:Nat) k g,ir[j]? =some i'->σ0.bx i'=some cs'->cs'[q]? =some (.arr k g)->k∈ok->∀(q0:Nat) g0,cs[q0]? =some (.arr k g0)->False:=by
    intro j i' cs' q k g hj hc hq hk q0 g0 hq0;have:=(huniq 0 (j+1) i i' cs cs' q0 q k g0 g rfl FX x1 hc hq0 hq hk).1;omega
   obtain⟨ns,G',d1,d2,d3,d4,d5,d6,d7,d8⟩:=ih ir (N+1000000) (t+100000) ((σ.apps ms).apps [.b i vs]) G1 _ inv2
    (fun j b' i' hb hi=>by
     obtain⟨cs',old',c',ty',y1,y2,y3,y4,y4',y5⟩:=hbx (j+1) b' i' CO Dk;obtain⟨old2,h2⟩:=hB2 i' ⟨old',y2⟩;refine⟨cs',old2,c',ty',y1,h2,by rw[b5];exact y3,y4,y4',fun q v y hv hy=>?_⟩
     have:=y5 q v y hv hy;rwa [show t+100000*(j+1)+q=t+100000+100000*j+q from Aa]at this)
    (fun j b' hb q hq hn=>by
     rw[har2,b11 _ (fun q' hq' _ e=>Aa) (fun q' g' hq' hk=>hoks _ hk hn)];have:=hfresh (j+1) b' CO q hq (by rw[show N+1000000*(j+1)+1000*q=N+1000000+1000000*j+1000*q by omega];exact hn)
     rwa [show N+1000000*(j+1)+1000*q=N+1000000+1000000*j+1000*q from Aa]at this)
    (fun j i' cs' q k g en hj hc hq hk hen g' hh=>by
     refine hre (j+1) i' cs' q k g en FX hc hq hk hen g' ?_;obtain⟨en',h1,h2⟩:=hh;rw[har2,b11 k (fun q' _ hn e=>DJ) (fun q0 g0 hq0 _=>hkeys j i' cs' q k g hj hc hq hk q0 g0 hq0)]at h1;exact⟨en',h1,h2⟩)
    (fun j j' i1 i2 cs1 cs2 q q' k g g' hj hj' hc hc' hq hq' hk=>by
     have:=huniq (j+1) (j'+1) i1 i2 cs1 cs2 q q' k g g' FX (by simpa using hj') hc hc' hq hq' hk
     omega)
    ⟨fun blk hb=>(b7 blk (by rw[hkx.fz blk hb];simp)).trans (hkx.fz blk hb),fun _ _=>rfl⟩
    (fun i' hi'=>⟨by rw[b5];exact(hβ i' hi').1,hB2 _ (hβ i' hi').2⟩)
    (fun j b' hb q blk hq hO=>by
     have hO':Gx.O blk= .ar (t+100000*(j+1)+q):=by rw[show t+100000*(j+1)+q=t+100000+100000*j+q by omega];exact hO
     have:=hpend (j+1) b' CO q blk hq hO';refine⟨?_,this.2⟩;rw[b8 blk (fun i0 hi0=>EY)];exact this.1) b1
   refine⟨_,G',d1,?_,d3.trans b5,fun k g hh=>(d4 k g (b9 k g hh)).trans (b6 k g hh),fun blk hb=>?_,fun k g hh=>?_,fun i' hi'=>?_,?_⟩
   ·rw[bT,dO,show(Mod.b i vs::ns)=[Mod.b i vs] ++ns from rfl,dO];exact d2
   ·have:=b7 blk hb
    rw[d5 blk Gq];exact this
   ·rw[bT,dO,show(Mod.b i vs::ns)=[Mod.b i vs] ++ns from rfl,dO];exact d6 k g (b9 k g hh)
   ·rw[bT,dO,show(Mod.b i vs::ns)=[Mod.b i vs] ++ns from rfl,dO];exact d7 i' (hB2 i' hi')
   ·intro i' hi'
    rw[bT];rcases List.mem_cons.1 hi' with rfl|hi'
    ·exact⟨vs,Ae⟩
    ·obtain⟨cs',h⟩:=d8 i' hi'
     exact⟨cs',by simp[h]⟩
end
end Go.Ab
