/- Lemmas. -/
import Derived.Test.YtcmgfjaiegpddaaGreatA5
import Derived.Laws.Cover3
import Derived.Deep.LoopGhost
set_option linter.all false
noncomputable section
namespace Go.Ab
section
variable{T:Tab}{P:Program}{Φ:Fr}{σ:St}{a:Act}{w w':World}{G G':Gh}{K:VK}{o:Oper}{d:Nat}
def Lent(n i:Nat):Prop:=100000<=i/\i<100000+n
theorem zL(ar:Nat->Option AE)(is ok:List Nat)(y:V)(r:List V)(x:V)(xr:List V)(N:Nat)(K:List V->List Mod->Prop):oJ ar is ok (y::r) (x::xr) N K=(match y with
        | .own e l=>xO ar ok N .own e l x λv m=>oJ ar is ok r xr (N+1000) λvs b=>K (v::vs) (m::b)
        | .ap e l=>xO ar ok N .ap e l x λv m=>oJ ar is ok r xr (N+1000) λvs b=>K (v::vs) (m::b)
        |y=>force (y.ren (renF is)) λv=>oJ ar is ok r xr (N+1000) λvs b=>K (v::vs) b):=rfl
def aT3{ar:Nat->Option AE}{ok:List Nat}{N:Nat}{b:AK}{e:TypeId}{l:List V}{x:V}{K:V->Mod->Prop}(h:xO ar ok N b e l x K):
 (∃k g en,x= .arr k g/\k∈ok/\ar k=some en/\K (.arr k (en.gen+1)) (.a k ⟨en.gen+1,b,e,l⟩))\/(ar N=none/\K (.arr N 0) (.a N ⟨0,b,e,l⟩)):=by
 unfold xO at h;grind [pM]
theorem bJ5{ar:Nat->Option AE}{ok:List Nat}{N:Nat}{c:AK}{e:TypeId}{l:List V}{x:V}{K b:V->Mod->Prop}(f:∀v m,K v m->b v m)(h:xO ar ok N c e l x K):xO ar ok N c e l x b:=by
 unfold xO at*;split at h<;>grind
def cQ2{ar:Nat->Option AE}{is ok:List Nat}:∀ {ys xs:List V} {N:Nat} {K b:List V->List Mod->Prop},(∀vs e,K vs e->b vs e)->oJ ar is ok ys xs N K->oJ ar is ok ys xs N b:=by
 intro ys;induction ys with
 |nil=>
  intro xs N K b c h;cases xs with
  |nil=>exact c _ _ h
  |cons x r=>exact(h:False).elim
 |cons y r f=>
  intro xs N K b c h;cases xs with
  |nil=>exact(h:False).elim
  |cons x xr=>
   rw[zL]at h⊢;split at h;grind [bJ5];exact bJ5 (λv m h=>f (λvs e=>c _ _) h) h;rw[force_eq]at h⊢;exact f (λvs e=>c _ _) h
set_option maxHeartbeats 1600000 in
def aU0{Gx:Gh}{σ0:St}{is ok:List Nat}{n:Nat}:∀(ys f:List V) (N t:Nat) (σ:St) (G:Gh) (us:List Value) (K:List V->List Mod->Prop),
 Inv T Φ σ a w G->us.length=ys.length->(∀q,q<ys.length->σ0.ar (N+1000*q)=none->σ.ar (N+1000*q)=none)->
 (∀(q:Nat) k g en,f[q]? =some (.arr k g)->k∈ok->σ0.ar k=some en->∀g',σ.hasA k g'->g'<=en.gen)->
 (∀(q q':Nat) k g g',f[q]? =some (.arr k g)->f[q']? =some (.arr k g')->k∈ok->q=q')->
 (∀(i:Nat) u y,us[i]? =some u->ys[i]? =some y->RbB T w Gx n (t+i) u y)->Keep w w Gx G->(∀i,Lent n i->G.β (renF is i)=Gx.β i/\σ.hasB (renF is i))->
 (∀i b,i<ys.length->Gx.O b= .ar (t+i)->G.O b= .ext/\Φ.mine b/\b<w.heap.size)->oJ σ0.ar is ok ys f N K->
 ∃vs c G',K vs c/\Inv T Φ (σ.apps c) a w G'/\vs.length=ys.length/\(∀(i:Nat) u v,us[i]? =some u->vs[i]? =some v->Rv w G' u v/\v.ok (σ.apps c).hasB (σ.apps c).hasA)/\
  G'.β=G.β/\(∀k g,σ.hasA k g->G'.av k g=G.av k g)/\(∀b,G.O b≠ .ext->G'.O b=G.O b)/\(∀b,(∀i,i<ys.length->Gx.O b≠ .ar (t+i))->G'.O b=G.O b)/\
  (∀k g,σ.hasA k g->(σ.apps c).hasA k g)/\(σ.apps c).bx=σ.bx/\
  (∀k,(∀q,q<ys.length->σ0.ar (N+1000*q)=none->k≠N+1000*q)->(∀(q:Nat) g,f[q]? =some (.arr k g)->k∉ok)->(σ.apps c).ar k=σ.ar k):=by
 intro ys;induction ys with
 |nil=>
  intro f N t σ G us K inv hl _ _ _ _ _ _ _ h;have az:us=[] :=PZ AQ;subst az;cases f with
  |nil=>exact⟨[],[],G,h,inv,rfl,λi u v hu=>by simp at hu,rfl,λ_ _ _=>rfl,λ_ _=>rfl,λ_ _=>rfl,λ_ _ h=>h,rfl,λ_ _ _=>rfl⟩
  |cons x r=>exact(h:False).elim
 |cons y r ih=>
  intro f N t σ G us K inv hl j ae C ad J L s h;cases f with
  |nil=>exact(h:False).elim
  |cons x xr=>
  cases us with
  |nil=>simp at hl
  |cons u ur=>
   have ak:ur.length=r.length:=AQ
   have W:∀(i:Nat) u y,ur[i]? =some u->r[i]? =some y->RbB T w Gx n (t+1+i) u y:=λi u y hu hy=>by
    have:=ad (i+1) u y AY EO;rwa [show t+(i+1)=t+1+i from Aa]at this
   have X:∀(k g:Nat) (z:AK) (e:TypeId) (l:List V),(z= .own\/z= .ap)->(∀g',σ.hasA k g'->g'<g)->(∀q,q<r.length->σ0.ar (N+1000+1000*q)=none->k≠N+1000+1000*q)->
    (∀(q:Nat) k' g' en,xr[q]? =some (.arr k' g')->k'∈ok->σ0.ar k'=some en->k'≠k)->
    ((∃g0,x= .arr k g0/\k∈ok)\/(k=N/\σ0.ar N=none))->e<T.n e->bM l->
    (gJ T w Gx t u e l\/(z= .ap/\Rv w Gx u (.cap l)/\∀x∈l,x.cells.length=(T.row e).size))->
    (oJ σ0.ar is ok r xr (N+1000) λvs c=>K (.arr k g::vs) (.a k ⟨g,z,e,l⟩::c))->
    ∃vs c G',K vs c/\Inv T Φ (σ.apps c) a w G'/\vs.length=(y::r).length/\(∀(i:Nat) F v,(u::ur)[i]? =some F->vs[i]? =some v->Rv w G' F v/\v.ok (σ.apps c).hasB (σ.apps c).hasA)/\
     G'.β=G.β/\(∀k g,σ.hasA k g->G'.av k g=G.av k g)/\(∀b,G.O b≠ .ext->G'.O b=G.O b)/\(∀b,(∀i,i< (y::r).length->Gx.O b≠ .ar (t+i))->G'.O b=G.O b)/\
     (∀k g,σ.hasA k g->(σ.apps c).hasA k g)/\(σ.apps c).bx=σ.bx/\
     (∀k,(∀q,q< (y::r).length->σ0.ar (N+1000*q)=none->k≠N+1000*q)->(∀(q:Nat) g,(x::xr)[q]? =some (.arr k g)->k∉ok)->(σ.apps c).ar k=σ.ar k):=by
    intro k g z e l R hno ay an S he hp D B;obtain⟨G1,ao,a1,a2,a3,a4,a5⟩:=inv.eV5 (k:=k) (gen:=g) hno R he hp D J (λb hb=>s 0 b Af EP);have ag:∀k' g',σ.hasA k' g'->(σ.apps [.a k ⟨g,z,e,l⟩]).hasA k' g':=λk' g' hh=>JF;have H:∀k',k'≠k->(σ.apps [.a k ⟨g,z,e,l⟩]).ar k'=σ.ar k':=λk' e1=>upd_ne _ _ e1;have ah:∀b,G.O b≠ .ext->G1.O b=G.O b:=λb hb=>a3 b (λau=>hb (s 0 b Af (by simpa using au)).1);have aj:Keep w w G G1:=⟨λb hb=>(ah b Aw).trans hb,λ_ _=>rfl⟩
    obtain⟨vs,c,G',b1,b2,b3,b4,b5,b6,b7,b8,b9,M,Y⟩:=ih xr (N+1000) (t+1) (σ.apps [.a k ⟨g,z,e,l⟩]) G1 ur _ ao ak
     (λq hq hn=>by
      rw[H _ (Ne.symm (ay q hq hn))];have:=j (q+1) Be Bo;rwa [show N+1000*(q+1)=N+1000+1000*q from Aa]at this)
     (λq k' g' en hq E hen aq hh=>by
      have ai:=an q k' g' en hq E hen;obtain⟨Z,Q,U⟩:=hh;rw[H _ ai]at Q;exact ae (q+1) k' g' en CP E hen aq ⟨Z,Q,U⟩)
     (λq q' k' g1 g2 hq ac E=>by
      have:=C (q+1) (q'+1) k' g1 g2 CP (by simpa using ac) E
      omega)
     W ⟨λb hb=>aj.fz b (J.fz b hb),λ_ _=>rfl⟩
     (λi hi=>⟨by rw[a4];exact(L i hi).1,(L i hi).2⟩)
     (λi b hi hb=>by
      have A:Gx.O b= .ar (t+(i+1)):=EY;have:=s (i+1) b Be A;refine⟨?_,this.2⟩;rw[a3 b (by rw[hb];intro e;have:=Tag.ar.inj e;omega)]
      exact this.1) B
    refine⟨_,_,G',b1,b2,by simp[b3],?_,b5.trans a4,λk' g' hh=>(b6 k' g' (ag k' g' hh)).trans (a5 k' g' hh),λb hb=>?_,λb hb=>?_,λk' g' hh=>b9 k' g' (ag k' g' hh),M,λk' Q U=>?_⟩
    ·intro i F v hu hv
     cases i with
     |zero=>
      simp at hu hv;subst hu;subst hv;have hA:(σ.apps [.a k ⟨g,z,e,l⟩]).hasA k g:=⟨_,upd_same _ _ _,Po _⟩;have e1:G'.av k g=u:=(b6 k g hA).trans a1;refine⟨?_,by simp only[V.ok];exact b9 k g hA⟩;rw[<-e1];exact .arr k g (by rw[e1];exact a2)
     |succ i=>exact b4 i F v AY AZ
    ·have:=ah b hb
     rw[b7 b (by rw[this];exact hb)];exact this
    ·rw[b8 b (λi hi=>CU),a3 b (by simpa using hb 0 (by simp))]
    ·have ab:k'≠k:=by
      rintro rfl;rcases S with⟨g0,hx,E⟩|⟨rfl,hn⟩
      ·exact U 0 g0 BO E
      ·exact Q 0 Af G9 Af
     have:=Y k' (λq hq hn=>by
      have:=Q (q+1) Be Bo;rwa [show N+1000*(q+1)=N+1000+1000*q from Aa]at this) (λq g hq=>U (q+1) g CP)
     exact this.trans (H k' ab)
   have af:linear y=false->(oJ σ0.ar is ok r xr (N+1000) λvs c=>K (y.ren (renF is)::vs) c)->
    ∃vs c G',K vs c/\Inv T Φ (σ.apps c) a w G'/\vs.length=(y::r).length/\(∀(i:Nat) F v,(u::ur)[i]? =some F->vs[i]? =some v->Rv w G' F v/\v.ok (σ.apps c).hasB (σ.apps c).hasA)/\
     G'.β=G.β/\(∀k g,σ.hasA k g->G'.av k g=G.av k g)/\(∀b,G.O b≠ .ext->G'.O b=G.O b)/\(∀b,(∀i,i< (y::r).length->Gx.O b≠ .ar (t+i))->G'.O b=G.O b)/\
     (∀k g,σ.hasA k g->(σ.apps c).hasA k g)/\(σ.apps c).bx=σ.bx/\
     (∀k,(∀q,q< (y::r).length->σ0.ar (N+1000*q)=none->k≠N+1000*q)->(∀(q:Nat) g,(x::xr)[q]? =some (.arr k g)->k∉ok)->(σ.apps c).ar k=σ.ar k):=by
    intro al B
    obtain⟨vs,c,G',b1,b2,b3,b4,b5,b6,b7,b8,b9,M,Y⟩:=ih xr (N+1000) (t+1) σ G ur _ inv ak
     (λq hq hn=>by
      have:=j (q+1) Be Bo;rwa [show N+1000*(q+1)=N+1000+1000*q from Aa]at this)
     (λq k' g' en hq E hen=>ae (q+1) k' g' en CP E hen)
     (λq q' k' g1 g2 hq ac E=>by
      have:=C (q+1) (q'+1) k' g1 g2 CP (by simpa using ac) E
      omega)
     W J L
     (λi b hi hb=>by
      have A:Gx.O b= .ar (t+(i+1)):=EY;exact s (i+1) b Be A) B
    refine⟨_,_,G',b1,b2,by simp[b3],?_,b5,b6,b7,λb hb=>b8 b (λi hi=>CU),b9,M,λk' Q U=>?_⟩
    ·intro i F v hu hv
     cases i with
     |zero=>
      simp at hu hv;subst hu;subst hv;have hb:=ad 0 u y rfl rfl
      have A:y.ok (Lent n) (λ_ _=>False)/\Rv w Gx u y:=by
       unfold RbB at hb;split at hb;simp[linear]at al;simp[linear]at al;exact hb
      have ax:Keep w w Gx G':=⟨λb hb=>(b7 b (by rw[J.fz b hb];simp)).trans (J.fz b hb),λ_ _=>rfl⟩;refine⟨A.2.ren ax A.1 (λi hi=>by rw[b5];exact(L i hi).1),?_⟩;refine V.ok.imp (λ_ h=>h) (λ_ _ h=>h.elim) _ (V.ok.ren (p':=(σ.apps c).hasB) (λi hi=>?_) y A.1);unfold St.hasB;rw[M];exact(L i hi).2
     |succ i=>exact b4 i F v AY AZ
    ·exact Y k' (λq hq hn=>by
      have:=Q (q+1) Be Bo;rwa [show N+1000*(q+1)=N+1000+1000*q from Aa]at this) (λq g hq=>U (q+1) g CP)
   have aa:=ad 0 u y rfl rfl;rw[Rq]at aa
   have go:∀(z:AK) (e:TypeId) (l:List V),(z= .own\/z= .ap)->e<T.n e->bM l->(gJ T w Gx t u e l\/(z= .ap/\Rv w Gx u (.cap l)/\∀x∈l,x.cells.length=(T.row e).size))->
    (xO σ0.ar ok N z e l x λv m=>oJ σ0.ar is ok r xr (N+1000) λvs c=>K (v::vs) (m::c))->
    ∃vs c G',K vs c/\Inv T Φ (σ.apps c) a w G'/\vs.length=(y::r).length/\(∀(i:Nat) F v,(u::ur)[i]? =some F->vs[i]? =some v->Rv w G' F v/\v.ok (σ.apps c).hasB (σ.apps c).hasA)/\
     G'.β=G.β/\(∀k g,σ.hasA k g->G'.av k g=G.av k g)/\(∀b,G.O b≠ .ext->G'.O b=G.O b)/\(∀b,(∀i,i< (y::r).length->Gx.O b≠ .ar (t+i))->G'.O b=G.O b)/\
     (∀k g,σ.hasA k g->(σ.apps c).hasA k g)/\(σ.apps c).bx=σ.bx/\
     (∀k,(∀q,q< (y::r).length->σ0.ar (N+1000*q)=none->k≠N+1000*q)->(∀(q:Nat) g,(x::xr)[q]? =some (.arr k g)->k∉ok)->(σ.apps c).ar k=σ.ar k):=by
    intro z e l R he hp D hA;rcases aT3 hA with⟨k,g,en,hx,E,hen,hK⟩|⟨hn,hK⟩
    ·refine X k (en.gen+1) z e l R (λg' aw=>Nat.lt_succ_of_le (ae 0 k g en BO E hen g' aw)) (λq _ hn e=>DZ) (λq k' g' Z hq ab I e=>?_) (.inl ⟨g,hx,E⟩) he hp D hK
     subst e;have:=C 0 (q+1) k' g g' BO CP ab;omega
    ·have am:=j 0 Af G9
     rw[Nat.mul_zero,Rq]at am;exact X N 0 z e l R (zK am 0) (λq _ _=>Aa) (λq k' g' Z _ _ I e=>by rw[e,hn]at I;cases I) (.inr ⟨rfl,hn⟩) he hp D hK
   rw[zL]at h;split at h;rename_i e l;obtain⟨q1,q2,q3⟩:=aa;exact go .own e l (.inl rfl) q1 q2 (.inl q3) h;rename_i e l;obtain⟨q1,q2,q3⟩:=aa;exact go .ap e l (.inr rfl) q1 q2 (q3.imp id (λh=>⟨rfl,h⟩)) h;rename_i Q U;rw[force_eq]at h;exact af (oW Q U) h
theorem aJ1(bx:Nat->Option (List V))(ar:Nat->Option AE)(is0 ok:List Nat)(b:List V)(r:List (List V))(i:Nat)(c:List Nat)(N:Nat)(K:List Mod->Prop):aB3 bx ar is0 ok (b::r) (i::c) N K=(match bx i with
        |some cs=>oJ ar is0 ok b cs N λvs e=>aB3 bx ar is0 ok r c (N+1000000) λns=>K (appR e (.b i vs::ns))
        |none=>False):=rfl
set_option maxHeartbeats 1600000 in
def cI1{Gx:Gh}{σ0:St}{is ok:List Nat}{n:Nat}(ad:∀k∈ok,σ0.ar k≠none):∀(bs:List (List V)) (z:List Nat) (N t:Nat) (σ:St) (G:Gh) (K:List Mod->Prop),
 Inv T Φ σ a w G->
 (∀(j:Nat) b i,bs[j]? =some b->z[j]? =some i->∃cs old c ty,σ0.bx i=some cs/\σ.bx i=some old/\w.heap[G.β i]? =some (.cells c ty (0,0))/\c.size=b.length/\b.length<1000/\
  ∀(q:Nat) v y,c[q]? =some v->b[q]? =some y->v.oneCell'=true/\RbB T w Gx n (t+100000*j+q) v y)->
 (∀(j:Nat) b,bs[j]? =some b->∀q,q<b.length->σ0.ar (N+1000000*j+1000*q)=none->σ.ar (N+1000000*j+1000*q)=none)->
 (∀(j:Nat) i cs (q:Nat) k g en,z[j]? =some i->σ0.bx i=some cs->cs[q]? =some (.arr k g)->k∈ok->σ0.ar k=some en->∀B,σ.hasA k B->B<=en.gen)->
 (∀(j j':Nat) i m cs l (q F:Nat) k g B,z[j]? =some i->z[j']? =some m->σ0.bx i=some cs->σ0.bx m=some l->cs[q]? =some (.arr k g)->l[F]? =some (.arr k B)->k∈ok->j=j'/\q=F)->
 Keep w w Gx G->(∀i,Lent n i->G.β (renF is i)=Gx.β i/\σ.hasB (renF is i))->
 (∀(j:Nat) b,bs[j]? =some b->∀q f,q<b.length->Gx.O f= .ar (t+100000*j+q)->G.O f= .ext/\Φ.mine f/\f<w.heap.size)->aB3 σ0.bx σ0.ar is ok bs z N K->
 ∃ns G',K ns/\Inv T Φ (σ.apps ns) a w G'/\G'.β=G.β/\(∀k g,σ.hasA k g->G'.av k g=G.av k g)/\(∀b,G.O b≠ .ext->G'.O b=G.O b)/\
  (∀k g,σ.hasA k g->(σ.apps ns).hasA k g)/\(∀i,σ.hasB i->(σ.apps ns).hasB i)/\∀i∈z,∃cs,Mod.b i cs∈ns:=by
 intro bs;induction bs with
 |nil=>
  intro z N t σ G K inv _ _ _ _ _ _ _ h;cases z with
  |nil=>exact⟨[],G,h,inv,rfl,λ_ _ _=>rfl,λ_ _=>rfl,λ_ _ h=>h,λ_ h=>h,λi hi=>by cases hi⟩
  |cons i r=>exact(h:False).elim
 |cons b r ih=>
  intro z N t σ G K inv ab x ae s M S C h;cases z with
  |nil=>exact(h:False).elim
  |cons i z=>
   rw[aJ1]at h;obtain⟨cs,old,c,ty,x1,x2,x3,x4,ax,x5⟩:=ab 0 b i rfl rfl;rw[x1]at h;simp only at h;have hlen:c.toList.length=b.length:=by simpa using x4
   obtain⟨vs,I,G1,b1,b2,b3,b4,b5,b6,b7,b8,b9,Z,aa⟩:=aU0 (Gx:=Gx) (σ0:=σ0) (is:=is) (ok:=ok) (n:=n) b cs N t σ G c.toList _ inv hlen
    (λq hq hn=>by
     have:=x 0 b rfl q hq G9;simpa using this)
    (λq k g en hq A hen=>ae 0 i cs q k g en rfl x1 hq A hen)
    (λq F k g B hq D A=>(s 0 0 i i cs cs q F k g B rfl rfl x1 x1 hq D A).2)
    (λq u y hu hy=>by
     have:=(x5 q u y AY hy).2;simpa using this) M S
    (λq f hq hb=>C 0 b rfl q f hq EP) h
   have ac:V.okL (σ.apps I).hasB (σ.apps I).hasA vs:=aH.2 λv hv=>by
    obtain⟨q,hq⟩:=P7 hv;have Q:q<c.toList.length:=by rw[hlen,<-b3];exact(Pg.1 hq).1
    exact(b4 q _ v (Pj Q) hq).2
   have ao:RvL w G1 c.toList vs:=⟨by rw[hlen,b3],λu hu=>by
    obtain⟨q,hq⟩:=P7 hu;have Q:q<b.length:=Ea;exact(x5 q u _ CP (Pj Q)).1,λq u v hu hv=>(b4 q u v hu hv).1⟩
   have af:Inv T Φ ((σ.apps I).apps [.b i vs]) a w G1:=b2.eJ4 (i:=i) (old:=old) (by rw[Z];exact x2) (c:=c) (t:=ty) ao ac (by rw[b5];exact x3) (λ_ _=>rfl) rfl rfl rfl rfl
   have J:∀m,σ.hasB m->((σ.apps I).apps [.b i vs]).hasB m:=λm ⟨y,hy⟩=>by
    by_cases e:m=i;subst e;exact⟨vs,upd_same _ _ _⟩;exact⟨y,by show upd (σ.apps I).bx i _ m=_;rw[upd_ne _ _ e,Z];exact hy⟩
   have H:((σ.apps I).apps [.b i vs]).ar=(σ.apps I).ar:=rfl
   have L:∀(j:Nat) m l (q:Nat) k g,z[j]? =some m->σ0.bx m=some l->l[q]? =some (.arr k g)->k∈ok->∀(q0:Nat) g0,cs[q0]? =some (.arr k g0)->False:=by
    intro j m l q k g X U hq A q0 g0 R;have:=(s 0 (j+1) i m cs l q0 q k g0 g rfl (by simpa using X) x1 U R hq A).1;omega
   obtain⟨ns,G',d1,d2,d3,d4,d5,d6,d7,d8⟩:=ih z (N+1000000) (t+100000) ((σ.apps I).apps [.b i vs]) G1 _ af
    (λj Y m hb hi=>by
     obtain⟨l,ag,c',aq,y1,y2,y3,y4,au,y5⟩:=ab (j+1) Y m EP (by simpa using hi);obtain⟨ah,h2⟩:=J m ⟨ag,y2⟩;refine⟨l,ah,c',aq,y1,h2,by rw[b5];exact y3,y4,au,λq v y hv hy=>?_⟩
     have:=y5 q v y hv hy;rwa [show t+100000*(j+1)+q=t+100000+100000*j+q from Aa]at this)
    (λj Y hb q hq hn=>by
     rw[H,aa _ (λF D _ e=>Aa) (λF B D A=>ad _ A hn)];have:=x (j+1) Y EP q hq (by rw[show N+1000000*(j+1)+1000*q=N+1000000+1000000*j+1000*q by omega];exact hn)
     rwa [show N+1000000*(j+1)+1000*q=N+1000000+1000000*j+1000*q from Aa]at this)
    (λj m l q k g en X U hq A hen B W=>by
     refine ae (j+1) m l q k g en (by simpa using X) U hq A hen B ?_
     obtain⟨ak,h1,h2⟩:=W;rw[H,aa k (λF _ hn e=>DZ) (λq0 g0 R _=>L j m l q k g X U hq A q0 g0 R)]at h1;exact⟨ak,h1,h2⟩)
    (λj j' i1 i2 ai aj q F k g B X an U am hq D A=>by
     have:=s (j+1) (j'+1) i1 i2 ai aj q F k g B (by simpa using X) (by simpa using an) U am hq D A
     omega)
    ⟨λf hb=>(b7 f (by rw[M.fz f hb];simp)).trans (M.fz f hb),λ_ _=>rfl⟩
    (λm E=>⟨by rw[b5];exact(S m E).1,J _ (S m E).2⟩)
    (λj Y hb q f hq hO=>by
     have al:Gx.O f= .ar (t+100000*(j+1)+q):=by rw[show t+100000*(j+1)+q=t+100000+100000*j+q by omega];exact hO
     have:=C (j+1) Y EP q f hq al;refine⟨?_,this.2⟩;rw[b8 f (λi0 aw=>Fg)];exact this.1) b1
   refine⟨_,G',d1,?_,d3.trans b5,λk g W=>(d4 k g (b9 k g W)).trans (b6 k g W),λf hb=>?_,λk g W=>?_,λm E=>?_,?_⟩;rw[bT,dO,show(Mod.b i vs::ns)=[Mod.b i vs] ++ns from rfl,dO];exact d2;grind;rw[bT,dO,show(Mod.b i vs::ns)=[Mod.b i vs] ++ns from rfl,dO];exact d6 k g (b9 k g W);rw[bT,dO,show(Mod.b i vs::ns)=[Mod.b i vs] ++ns from rfl,dO];exact d7 m (J m E);grind [bT]
end
section
variable{T:Tab}{P:Program}{Φ:Fr}{σ:St}{a:Act}{w w':World}{G G':Gh}{K:VK}{o:Oper}{d:Nat}
def Mod.isB(i:Nat):Mod->Prop| .b j _=>j=i| .a _ _=>False
def Mod.isA(k:Nat):Mod->Prop| .b _ _=>False| .a j _=>j=k
theorem jJ(c:List Mod)(i:Nat):∀σ:St,(∀m∈c,¬m.isB i)->(σ.apps c).bx i=σ.bx i:=by
 induction c with
 |nil=>intro σ _;rfl
 |cons m r g=>
  intro σ h;have:σ.apps (m::r)=(m.app σ).apps r:=rfl;rw[this,g _ (λm f=>h m (Qw _ f))];have:=h m (QU ..);cases m with
  |b j cs=>exact upd_ne _ _ (λe=>this e.symm)
  |a j en=>rfl
theorem lW(c:List Mod)(i:Nat):∀σ:St,(∀m∈c,¬m.isA i)->(σ.apps c).ar i=σ.ar i:=by
 induction c with
 |nil=>intro σ _;rfl
 |cons m r g=>
  intro σ h;have:σ.apps (m::r)=(m.app σ).apps r:=rfl;rw[this,g _ (λm f=>h m (Qw _ f))];have:=h m (QU ..);cases m with
  |a j cs=>exact upd_ne _ _ (λe=>this e.symm)
  |b j en=>rfl
theorem aI2(f:List Mod)(i:Nat):∀σ c:St,((∃m∈f,m.isB i)\/σ.bx i=c.bx i)->(σ.apps f).bx i=(c.apps f).bx i:=by
 induction f with
 |nil=>intro σ c h;exact h.resolve_left (λ⟨m,hm,_⟩=>GI)
 |cons m r l=>
  intro σ c h;show((m.app σ).apps r).bx i=((m.app c).apps r).bx i;apply l;rcases h with⟨k,e,g⟩|h;rcases P5.1 e with rfl|e;right;cases k with
  |b j cs=>cases g;show upd _ _ _ _=upd _ _ _ _;rw[upd_same,upd_same]
  |a j en=>exact g.elim
  exact .inl ⟨k,e,g⟩;right;cases m with
  |b j cs=>
   exact OV
  |a j en=>exact h
theorem aI9(f:List Mod)(i:Nat):∀σ c:St,((∃m∈f,m.isA i)\/σ.ar i=c.ar i)->(σ.apps f).ar i=(c.apps f).ar i:=by
 induction f with
 |nil=>intro σ c h;exact h.resolve_left (λ⟨m,hm,_⟩=>GI)
 |cons m r l=>
  intro σ c h;show((m.app σ).apps r).ar i=((m.app c).apps r).ar i;apply l;rcases h with⟨k,e,g⟩|h;rcases P5.1 e with rfl|e;right;cases k with
  |a j cs=>cases g;show upd _ _ _ _=upd _ _ _ _;rw[upd_same,upd_same]
  |b j en=>exact g.elim
  exact .inl ⟨k,e,g⟩;right;cases m with
  |a j cs=>
   exact OV
  |b j en=>exact h
def aN6(f:List Mod)(i:Nat):∀σ:St,((∃m∈f,m.isB i)\/σ.bx i≠none)->(σ.apps f).bx i≠none:=by
 induction f with
 |nil=>intro σ h;exact h.resolve_left (λ⟨m,hm,_⟩=>GI)
 |cons m r k=>
  intro σ h;show((m.app σ).apps r).bx i≠none;apply k;rcases h with⟨g,c,e⟩|h;rcases P5.1 c with rfl|c;right;cases g with
  |b j cs=>cases e;show upd _ _ _ _≠none;rw[upd_same];simp
  |a j en=>exact e.elim
  exact .inl ⟨g,c,e⟩;right;cases m with
  |b j cs=>
   show upd _ _ _ _≠none;grind [upd_same,upd_ne]
  |a j en=>exact h
def aO2(g:List Mod)(i:Nat):∀σ:St,((∃m∈g,m.isA i)\/σ.ar i≠none)->(σ.apps g).ar i≠none:=by
 induction g with
 |nil=>intro σ h;exact h.resolve_left (λ⟨m,hm,_⟩=>GI)
 |cons m r l=>
  intro σ h;show((m.app σ).apps r).ar i≠none;apply l;rcases h with⟨k,c,f⟩|h;rcases P5.1 c with rfl|c;right;cases k with
  |a j cs=>cases f;show upd _ _ _ _≠none;rw[upd_same];simp
  |b j en=>exact f.elim
  exact .inl ⟨k,c,f⟩;right;cases m with
  |a j cs=>
   show upd _ _ _ _≠none;by_cases e:i=j;subst e;rw[upd_same];simp;rw[upd_ne _ _ e];exact h
  |b j en=>exact h
def dZ3{ar:Nat->Option AE}{is:List Nat}{x y:V}{k:Nat}(h:aP8 T ar is x y)(i:linear y=true)(c:k∈jQ x):∃en,ar k=some en:=by
 have key:wU T ar x y->∃en,ar k=some en:=by
  intro h;cases y with
  |own e l=>
   cases x with
   |arr f g=>
    have b:k=f:=by simpa [jQ]using c
    subst b;have h':(match ar k with|some en=>en.gen=g/\en.kind= .own/\en.ty=e/\en.l=l|none=>False):=h;exact Oc
   |agg cs=>exact(h:False).elim
   |_=>simp[jQ]at c
  |ap e l=>
   cases x with
   |arr f g=>
    have b:k=f:=by simpa [jQ]using c
    subst b;have h':(match ar k with|some en=>en.gen=g/\(en.kind= .own\/en.kind= .ap)/\en.ty=e/\en.l=l|none=>False):=h;exact Oc
   |agg cs=>exact(h:False).elim
   |_=>simp[jQ]at c
  |_=>simp[linear]at i
 cases y with
 |own e l=>exact key h
 |ap e l=>exact key h
 |_=>simp[linear]at i
set_option maxHeartbeats 1600000 in
def fB8(inv:Inv T Φ σ a w G){f:FuncId}{Z:List Value}{xs:List V}(al:Z.length=xs.length)(hrel:∀(i:Nat) v x,Z[i]? =some v->xs[i]? =some x->Rv w G v x/\x.ok σ.hasB σ.hasA){ys:List V}{is:List Nat}{bs:List (List V)}{r:V}{D:List (List V)}
 (R:xM T σ.ar is ((xs,ys)::eU σ.bx bs is))(ab:zA σ.bx ((xs,ys)::eU σ.bx bs is) is bs r=true)(H:aU2 T P f ys bs r D)
 (C:aX2 σ.bx σ.ar is (ownG ((xs,ys)::eU σ.bx bs is)) d r D λv s=>K v (appR (aV σ (mF ((xs,ys)::eU σ.bx bs is))) (appR (aX σ (ownG ((xs,ys)::eU σ.bx bs is))) s))):
 Calls P f Z.toArray w λe w'=>∃v',e= .returned v'/\∃v s G',K v s/\Inv T Φ (σ.apps s) a w' G'/\Rv w' G' v' v/\v.ok (σ.apps s).hasB (σ.apps s).hasA:=by
 refine(cS4 inv al hrel rfl R ab H).mono ?_;have hlens:=H.2.1;clear H;obtain⟨bb,af,bj,hil,av,a4,bi,ak⟩:=aL0 ab;have ae:D.length=bs.length:=Dk;have au:∀(γ:Nat) (g:List V×List V),((xs,ys)::eU σ.bx bs is)[γ]? =some g->g.1.length=g.2.length/\∀(q:Nat) x y,g.1[q]? =some x->g.2[q]? =some y->aP8 T σ.ar is x y:=λγ g hg=>aB1 (aJ8 R γ g hg)
 have gj:∀(j:Nat) (i:Nat) b,is[j]? =some i->bs[j]? =some b->((xs,ys)::eU σ.bx bs is)[j+1]? =some ((σ.bx i).getD [],b):=by
  intro j i b X N;rw[Qi];exact(aR3 hil j _).2 ⟨i,b,X,N,rfl⟩
 generalize bg:(xs,ys)::eU σ.bx bs is=gs at*
 have ax:∀k∈ownG gs,σ.ar k≠none:=by
  intro k C hn;obtain⟨γ,q,g,X,x,y,N,h3,h4,h5⟩:=aP0.1 C;obtain⟨en,hen⟩:=dZ3 ((au γ g X).2 q x y N h3) h4 h5;rw[hen]at hn;cases hn
 have U:∀(j i:Nat) cs (q k g:Nat),is[j]? =some i->σ.bx i=some cs->cs[q]? =some (.arr k g)->k∈ownG gs->PosG gs (j+1) q k:=by
  intro j i cs q k g hj hc hq C;have a8:j<bs.length:=Em;have hg:=gj j i bs[j] hj (Pj a8);rw[hc]at hg;simp only[QT]at hg;have hlen:=(au _ _ hg).1;have az:q<bs[j].length:=Ea;refine⟨_,hg,_,bs[j][q],hq,Pj az,?_,by simp[jQ]⟩;cases hl:linear bs[j][q]with
  |true=>rfl
  |false=>
   exfalso;exact af k C (aS8.2 ⟨j+1,_,hg,nP.2 ⟨q,_,_,hq,Pj az,hl,by simp[jQ]⟩⟩)
 rintro e w1 ⟨v,G1,G2,rfl,L,aq,a1,S,ag,ac,O,bf⟩;refine⟨v,rfl,?_⟩;generalize bd:ownG gs=ok at*;generalize bl:mF gs=vk at*;generalize ad:σ.apps (aV σ vk++aX σ ok++oM σ.bx is)=A at*
 have aa:∀i,A.bx i=if i∈is then some (((σ.bx i).getD []).map λ_=>V.bot)else σ.bx i:=λi=>by
  rw[<-ad,dO,bX5,aR5 σ _ (λm hm=>by
   rcases Pv.1 hm with hm|hm;exact bF7 σ vk m hm
   exact aS3 σ ok m hm)]
 have Q:∀k en,k∈ok->σ.ar k=some en->∀J,A.hasA k J->J<=en.gen:=by
  rintro k en C hen J ⟨be,q1,q2⟩;rw[O,Pm C,hen]at q1;cases q1;exact q2
 have ai:∀B,Lent bs.length B->∃(j i:Nat),B=100000+j/\is[j]? =some i/\renF is B=i:=by
  rintro B ⟨X,N⟩;have hj:B-100000<is.length:=Aa;refine⟨B-100000,is[B-100000],Aa,Pj hj,?_⟩;show nthD is (B-100000)=_;unfold nthD;rw[uN,Pj hj]
 have W:∀B,Lent bs.length B->G2.β (renF is B)=G1.β B/\A.hasB (renF is B):=by
  intro B Y;obtain⟨j,i,rfl,N,h3⟩:=ai B Y;rw[h3];refine⟨ac j i N,?_⟩;unfold St.hasB;rw[aa,Pm (Pn N)];exact⟨_,rfl⟩
 have ah:is=[]->D=[] :=λh=>by
  have e1:D.length=0:=by rw[ae,<-hil,h];rfl
  exact PV.1 e1
 have I:∀(M F:List V),((∀(q k g:Nat),F[q]? =some (.arr k g)->False)\/(is=[]/\F.length=1))->∀(Z:List Value),Z.length=M.length->M.length<1000->(∀(i:Nat) u y,Z[i]? =some u->M[i]? =some y->RbB T w1 G1 bs.length i u y)->∀(K':List V->List Mod->Prop),
  (oJ σ.ar is ok M F d λvs s=>aB3 σ.bx σ.ar is ok D is (d+1000000) λns=>K' vs (appR s ns))->
  ∃vs s G',K' vs s/\Inv T Φ (A.apps s) a w1 G'/\vs.length=M.length/\(∀(i:Nat) u v,Z[i]? =some u->vs[i]? =some v->Rv w1 G' u v/\v.ok (A.apps s).hasB (A.apps s).hasA)/\∀i∈is,∃cs,Mod.b i cs∈s:=by
  intro M F l Z al bk hrb K' a0
  obtain⟨vs,s,G3,b1,b2,b3,b4,b5,b6,b7,b8,b9,am,an⟩:=aU0 (Gx:=G1) (σ0:=σ) (is:=is) (ok:=ok) (n:=bs.length) M F d 0 A G2 Z _ a1 al
   (λq _ hn=>by rw[O,hn];simp)
   (λq k g en hq C hen J hh=>Q k en C hen J hh) (λq q' k g J hq E _=>by
    rcases l with l|⟨_,l⟩;exact(l q k g hq).elim;have X:=(Pg.1 hq).1
    have N:=(Pg.1 E).1;omega)
   (λi u y hu hy=>Fq) ag W (λi b _ hb=>S _ b hb) a0
  obtain⟨ns,G',d1,d2,d3,d4,d5,d6,d7,d8⟩:=cI1 (Gx:=G1) (σ0:=σ) (is:=is) (ok:=ok) (n:=bs.length) ax D is (d+1000000) 100000 (A.apps s) G3 _ b2
   (λj b i hb hi=>by
    obtain⟨cs,a6⟩:=av i (Pn hi);obtain⟨p1,c,t,p2,p3,p4⟩:=aq j b hb;have hj:j<bs.length:=by rw[<-ae];exact(Pg.1 hb).1
    refine⟨cs,_,c,t,a6,by rw[am,aa,Pm (Pn hi)],by rw[b5,ac j i hi];exact p2,p3,?_,λq v y hv hy=>?_⟩;have e1:(D.map List.length)[j]? =some b.length:=by rw[PK,hb];rfl
    rw[hlens]at e1;grind;have:=p4 q v y hv hy
    rw[ae]at this;rwa [show 100000*(j+1)+q=100000+100000*j+q from Aa]at this)
   (λj b hb q hq hn=>by
    rcases l with l|⟨l,_⟩;rw[an _ (λq' E _ e=>Aa) (λq' J E=>(l q' _ J E).elim),O,hn];simp
    rw[ah l]at hb;cases hb)
   (λj i cs q k g en hj hc hq C hen J hh=>by
    obtain⟨a3,X,N⟩:=hh;rcases l with l|⟨l,_⟩;rw[an k (λq' _ hn e=>DZ) (λq' J E=>(l q' _ J E).elim)]at X;exact Q k en C hen J ⟨a3,X,N⟩
    rw[l]at hj;cases hj)
   (λj j' i B cs a2 q q' k g J hj a7 hc a5 hq E C=>by
    have:=aA3 (by rw[bd];exact bb) (U j i cs q k g hj hc hq C) (U j' B a2 q' k J a7 a5 E C)
    omega)
   ⟨λb hb=>(b7 b (by rw[ag.fz b hb];simp)).trans (ag.fz b hb),λ_ _=>rfl⟩
   (λB Y=>⟨by rw[b5];exact(W B Y).1,by obtain⟨x,hx⟩:=(W B Y).2;exact⟨x,by rw[am];exact hx⟩⟩)
   (λj b hb q ao hq hO=>by
    have:=S _ ao hO;refine⟨?_,this.2⟩;rw[b8 ao (λi0 bh=>Fg)];exact this.1) b1
  refine⟨vs,appR s ns,G',d1,by rw[bT,dO];exact d2,b3,λi u v hu hv=>?_,λi hi=>?_⟩
  ·obtain⟨q1,q2⟩:=b4 i u v hu hv
   rw[bT,dO];have a9:Keep w1 w1 G3 G':=⟨λb hb=>(d5 b Aw).trans hb,λ_ _=>rfl⟩;exact⟨q1.keep a9 q2 (λi _=>by rw[d3]) d4,V.ok.imp d7 d6 _ q2⟩
  ·grind [bT]
 have z:∀s:List Mod,(∀i∈is,∃cs,Mod.b i cs∈s)->σ.apps (appR (aV σ vk) (appR (aX σ ok) s))=A.apps s:=by
  intro s ba;have e1:σ.apps (appR (aV σ vk) (appR (aX σ ok) s))=(σ.apps (aV σ vk++aX σ ok)).apps s:=by rw[bT,bT,<-Pq];exact dO _ _ _
  have e2:A=(σ.apps (aV σ vk++aX σ ok)).apps (oM σ.bx is):=ad.symm.trans (dO _ _ _);rw[e1,e2];generalize σ.apps (aV σ vk++aX σ ok)=τ;have X:(τ.apps s).env=((τ.apps (oM σ.bx is)).apps s).env:=by rw[vM,vM,vM]
  have N:(τ.apps s).bx=((τ.apps (oM σ.bx is)).apps s).bx:=by
   funext i;refine aI2 s i _ _ ?_;by_cases hi:i∈is;obtain⟨cs,h⟩:=ba i hi;exact .inl ⟨_,h,rfl⟩;rw[bX5,Ph hi];exact .inr rfl
  have h3:(τ.apps s).ar=((τ.apps (oM σ.bx is)).apps s).ar:=by
   funext k;grind [aI9,dI5]
  generalize τ.apps s=s1 at*;generalize (τ.apps (oM σ.bx is)).apps s=s2 at*;cases s1;cases s2<;>grind
 unfold aX2 at C;split at C
 ·rename_i M
  obtain⟨vs',e1,e2,e3⟩:∃vs:Array Value,v= .tuple vs/\vs.size=M.length/\∀(j:Nat) u y,vs[j]? =some u->M[j]? =some y->RbB T w1 G1 bs.length j u y:=L;rw[dU]at C
  obtain⟨vs,s,G',b1,b2,b3,b4,b5⟩:=I M (M.map λ_=> .bot) (.inl (λq k g hq=>by
   rw[PK]at hq;cases hy:M[q]? with
   |none=>rw[hy]at hq;cases hq
   |some y=>rw[hy]at hq;simp at hq)) vs'.toList FB (ak M rfl) (λi u y hu hy=>e3 i u y AY hy) (λvs s=>K (.tup vs) (appR (aV σ vk) (appR (aX σ ok) s))) C
  refine⟨.tup vs,_,G',b1,by rw[z s b5];exact b2,?_,?_⟩
  ·exact KQ
  ·rw[z s b5]
   simp only[V.ok];refine aH.2 λx hx=>?_;obtain⟨i,hi⟩:=P7 hx;have aw:i<vs'.toList.length:=Bl;exact(b4 i _ x (Pj aw) hi).2
 ·rename_i bc
  have aj:RbB T w1 G1 bs.length 0 v r:=by
   unfold RrB at L;split at L;exact(bc _ rfl).elim;exact L
  have ay:(∀(q k g:Nat),[dB5 is ok][q]? =some (.arr k g)->False)\/(is=[]/\ [dB5 is ok].length=1):=by
   cases is with
   |nil=>exact .inr ⟨rfl,rfl⟩
   |cons i ir=>
    refine .inl λq k g hq=>?_;cases q with
    |zero=>cases hq
    |succ q=>simp at hq
  obtain⟨vs,s,G',b1,b2,b3,b4,b5⟩:=I [r] [dB5 is ok] ay [v] rfl Af (λi u y hu hy=>by
   cases i with
   |zero=>simp at hu hy;subst hu;subst hy;exact aj
   |succ i=>simp at hu) (λvs s=>match vs with|v::_=>K v (appR (aV σ vk) (appR (aX σ ok) s))| [] =>False) (by
   refine cQ2 (λvs s h=>?_) C;cases vs with
   |nil=>exact(h:False).elim
   |cons v r=>exact h)
  match vs,b3 with
  | [x],_=>
    obtain⟨q1,q2⟩:=b4 0 v x rfl rfl;exact⟨x,_,G',b1,by rw[z s b5];exact b2,q1,by rw[z s b5];exact q2⟩
def cP8(inv:Inv T Φ σ a w G){q:Md}{f:FuncId}{y:List Value}{xs:List V}(c:y.length=xs.length)(hrel:∀(i:Nat) v x,y[i]? =some v->xs[i]? =some x->Rv w G v x/\x.ok σ.hasB σ.hasA)(h:kY T P q σ d f xs K):
 callable P f=true/\Calls P f y.toArray w λe w'=>∃v',e= .returned v'/\∃v s G',K v s/\Inv T Φ (σ.apps s) a w' G'/\Rv w' G' v' v/\v.ok (σ.apps s).hasB (σ.apps s).hasA:=by
 rcases h.out with⟨ys,r,lend,m,n,b,p⟩|⟨_,ys,r,j,k,g,e,l,C,m,n,b,p,u,A,B⟩|⟨ys,is,bs,r,z,_,m,n,b,p⟩|⟨_,ys,t,m,n,b,p,u⟩
 ·exact⟨b.1,eJ8 inv c hrel m n b p⟩
 ·exact⟨b.1,eO2 inv c hrel m n b p u A B⟩
 ·exact⟨b.1,fB8 inv c hrel m n b p⟩
 ·exact⟨b.1,call_new inv c hrel m n b p u⟩
def bF2(inv:Inv T Φ σ a w G){b:Md}{f:FuncId}(as:List Operand)(h:kY T P b σ d f (as.map σ.ev) K):
 callable P f=true/\Calls P f (as.map a.eval).toArray w λe w'=>∃v',e= .returned v'/\∃v c G',K v c/\Inv T Φ (σ.apps c) a w' G'/\Rv w' G' v' v/\v.ok (σ.apps c).hasB (σ.apps c).hasA:=by
 refine cP8 inv Af (λi v x hv k=>?_) h
 have hi:i<as.length:=by
  grind
 have g:v=a.eval as[i] :=by simpa [hi]using hv.symm
 have j:x=σ.ev as[i] :=by simpa [hi]using k.symm
 rw[g,j];exact inv.ev as[i]
end
theorem dE7(i:Nat)(cs xs:List V):(V.agg xs).frz i cs= .agg (xs.map (V.frz i cs)):=by
 have h:∀l:List V,(V.agg l).frz i cs= .agg (l.map (V.frz i cs)):=by
  intro l;induction l with
  |nil=>rfl
  |cons x r c=>
   have b:(V.agg (x::r)).frz i cs=(match(V.agg r).frz i cs with| .agg l=> .agg (x.frz i cs::l)|y=>y):=rfl;rw[b,c];rfl
 exact h xs
theorem dB9(i:Nat)(cs xs:List V):(V.tup xs).frz i cs= .tup (xs.map (V.frz i cs)):=by
 have h:∀l:List V,(V.tup l).frz i cs= .tup (l.map (V.frz i cs)):=by
  intro l;induction l with
  |nil=>rfl
  |cons x r c=>
   have b:(V.tup (x::r)).frz i cs=(match(V.tup r).frz i cs with| .tup l=> .tup (x.frz i cs::l)|y=>y):=rfl;rw[b,c];rfl
 exact h xs
theorem eK0(i:Nat)(cs:List V)(g:FuncId)(xs:List V):(V.fn g xs).frz i cs= .fn g (xs.map (V.frz i cs)):=by
 have h:∀l:List V,(V.fn g l).frz i cs= .fn g (l.map (V.frz i cs)):=by
  intro l;induction l with
  |nil=>rfl
  |cons x r c=>
   have b:(V.fn g (x::r)).frz i cs=(match(V.fn g r).frz i cs with| .fn g l=> .fn g (x.frz i cs::l)|y=>y):=rfl;rw[b,c];rfl
 exact h xs
theorem zG(i off:Nat)(cs:List V):(V.box i off).frz i cs= .fp (cs.drop off):=by
 show cond (Nat.beq i i) (V.fp (jX cs off)) (.box i off)=_;rw[SG,Qo,lQ]
def bI5{i j off:Nat}(cs:List V)(h:j≠i):(V.box j off).frz i cs= .box j off:=by
 show cond (Nat.beq j i) (V.fp (jX cs off)) (.box j off)=_;have:Nat.beq j i=false:=ER;rw[this,Qu]
section
variable{T:Tab}{P:Program}{Φ:Fr}{σ:St}{a:Act}{w:World}{G:Gh}
mutual
theorem V.ok.frz{p p':Nat->Prop}{q:Nat->Nat->Prop}{i:Nat}{cs:List V}(c:∀j,p j->j≠i->p' j)(b:bM cs):(x:V)->x.ok p q->(x.frz i cs).ok p' q
 | .bot,_=>FN
 | .lit u,_=>Fv
 | .agg l,h=>by
   rw[dE7];simp only[V.ok]at h⊢;exact V.okL.frz c b l h
 | .tup l,h=>by
   rw[dB9];simp only[V.ok]at h⊢;exact V.okL.frz c b l h
 | .sl l,h=>Eb
 | .cap l,h=>DX
 | .own e l,h=>DI
 | .ap e l,h=>DU
 | .box j off,h=>by
   by_cases e:j=i;grind [zG,aH,PU,V.ok];rw[bI5 cs e];simp only[V.ok]at h⊢;exact c j h e
 | .arr k g,h=>DJ
 | .fp l,h=>Ec
 | .ae k g z i' o,h=>Dh
 | .fn g l,h=>by
   rw[eK0];simp only[V.ok]at h⊢;exact V.okL.frz c b l h
theorem V.okL.frz{p p':Nat->Prop}{q:Nat->Nat->Prop}{i:Nat}{cs:List V}(c:∀j,p j->j≠i->p' j)(b:bM cs):(l:List V)->V.okL p q l->V.okL p' q (l.map (V.frz i cs))
 | [],_=>by simp only[QC,V.okL]
 |x::r,h=>by
  simp only[PW,V.okL]at h⊢;exact⟨V.ok.frz c b x h.1,V.okL.frz c b r h.2⟩
end
def Rv.frz{i:Nat}{cs:List V}{c:Array Value}{t:TypeId}(J:w.heap[G.β i]? =some (.cells c t (0,0)))(hc:RvL w G c.toList cs)(D:bM cs)(Q:G.O (G.β i)= .bx i){v:Value}{x:V}(h:Rv w G v x):
 ∀ {p:Nat->Prop} {q:Nat->Nat->Prop},x.ok p q->Rv w {G with O:=upd G.O (G.β i) .fz} v (x.frz i cs):=by
 have f:Keep w w G {G with O:=upd G.O (G.β i) .fz}:=⟨λb F=>by
  show upd G.O _ _ b=_;by_cases e:b=G.β i;subst e;rw[upd_same]
  rw[upd_ne _ _ e];exact F,λ_ _=>rfl⟩
 induction h with
 |bot v=>intros;exact .bot v
 |lit u h=>intros;exact .lit u h
 |agg vs xs hl I _ ih=>
  intro p q hok;simp only[V.ok]at hok;rw[dE7];refine .agg vs _ AQ I λj c x hc hx=>?_;exact NT
 |tup vs xs hl _ ih=>
  intro p q hok;simp only[V.ok]at hok;rw[dB9];refine .tup vs _ AQ λj c x hc hx=>?_;exact NT
 |slN=>intros;exact .slN
 |slS a c l sz cc z o r A B C _=>
  intro p q hok;exact(Rv.slS a c l sz cc z o r A B C).aW f AL
 |capN=>intros;exact .capN
 |capS a l sz cc o r A B C _=>
  intro p q hok;exact(Rv.capS a l sz cc o r A B C).aW f AL
 |box j off=>
  intro p q hok;by_cases e:j=i;subst e;rw[zG];have H:=(RvL.here (n:=c.toList.length) J (by rw[Rn];exact hc)).out;obtain⟨cc,M,N⟩:=H;refine .fp ⟨G.β j,off,none⟩ _ (λk=>cc (off+k)) (λ_=>by show upd G.O _ _ (G.β j)=_;rw[upd_same]) (λk y hy=>?_) (λk y hy=>?_);rw[Qe]at hy;have:=M (off+k) y hy;simp_all [rY,QD];rw[Qe]at hy;exact(N _ y hy).aW f (aH.1 D y (Pn hy));rw[bI5 cs e];exact Rv.box (G:={G with O:=upd G.O (G.β i) .fz}) j off
 |arr k g h=>
  intro p q hok;exact Rv.arr (G:={G with O:=upd G.O (G.β i) .fz}) k g h
 |fp a l cc z o r _=>
  intro p q hok;exact(Rv.fp a l cc z o r).aW f AL
 |ae k g sz j off a n c h=>
  intro p q hok;exact Rv.ae (G:={G with O:=upd G.O (G.β i) .fz}) k g sz j off a n c h
 |fn g L d hl _ ih=>
  intro p q hok;simp only[V.ok]at hok;rw[eK0];refine .fn g L _ AQ λj c x hc hx=>?_;rw[PK]at hx;cases hy:d[j]? with
  |none=>rw[hy]at hx;cases hx
  |some y=>exact IY
 |fb g E d hl _ ih=>
  intro p q hok;simp only[V.ok,V.okL]at hok;rw[eK0];refine .fb g E (d.map (V.frz i cs)) AQ λj c x hc hx=>?_;rw[PK]at hx;cases hy:d[j]? with
  |none=>rw[hy]at hx;cases hx
  |some y=>
   rw[hy]at hx;simp only[Qg,Ql]at hx;subst hx;exact ih j c y hc hy (aH.1 hok.2 y (Pn hy))
 |mp b s m g K es val z o r A B C _=>
  intro p q hok;exact(Rv.mp b s m g K es val z o r A B C).aW f ED
def bP0{i:Nat}{cs:List V}{bx:Nat->Option (List V)}{j:Nat}{l:List V}(h:frzB i cs bx j=some l):j≠i/\∃c,bx j=some c/\l=c.map (V.frz i cs):=by
 unfold frzB at h;cases b:Nat.beq j i with
 |true=>rw[b]at h;cases h
 |false=>
  rw[b,Qu]at h;grind [SG,dU]
def dE5{i:Nat}{cs:List V}{bx:Nat->Option (List V)}{j:Nat}{b:List V}(c:j≠i)(h:bx j=some b):frzB i cs bx j=some (b.map (V.frz i cs)):=by
 unfold frzB;have:Nat.beq j i=false:=by rw[<-QS,QJ];exact c
 rw[this,Qu,h];simp only[dU]
def Inv.bV0(inv:Inv T Φ σ a w G){i:Nat}{cs:List V}(hi:σ.bx i=some cs)(H:i<100000)(g:bM cs):
 Inv T Φ ⟨λs=>(σ.env s).frz i cs,frzB i cs σ.bx,σ.ar⟩ a w {G with O:=upd G.O (G.β i) .fz}/\Keep w w G {G with O:=upd G.O (G.β i) .fz}:=by
 obtain⟨c,t,E,C,p⟩:=inv.box i cs hi
 have m:Keep w w G {G with O:=upd G.O (G.β i) .fz}:=⟨λb d=>by
  show upd G.O _ _ b=_;by_cases e:b=G.β i;subst e;rw[upd_same]
  rw[upd_ne _ _ e];exact d,λ_ _=>rfl⟩
 have B:∀j,σ.hasB j->j≠i->St.hasB ⟨λs=>(σ.env s).frz i cs,frzB i cs σ.bx,σ.ar⟩ j:=λj ⟨l,q⟩ z=>⟨_,dE5 z q⟩
 have f:∀b,upd G.O (G.β i) Tag.fz b=G.O b\/(b=G.β i/\upd G.O (G.β i) Tag.fz b= .fz):=λb=>by
  grind [upd_same,upd_ne]
 refine⟨{nd:=inv.nd,kp:=inv.kp,sz:=inv.sz,env:= ?_,wfE:= ?_,box:= ?_,wfB:= ?_,arr:= ?_,wfA:=inv.wfA,tag:= ?_,mineB:= ?_,mineA:= ?_,fzm:= ?_,F0:= ?_,lay:=inv.lay,frame:=inv.frame,size:=inv.size,os:=inv.os,tape:=inv.tape,output:=inv.output,args:=inv.args,argb:=λj b h=>⟨(inv.argb j b h).1,(inv.argb j b h).2.1,_,dE5 (λe=>by have:=(inv.argb j b h).2.1.1;omega) (inv.argb j b h).2.2.choose_spec⟩},m⟩
 ·intro s;exact(inv.env s).frz E C g p (inv.wfE s)
 ·intro s;exact V.ok.frz B g _ (inv.wfE s)
 ·intro j l q
  obtain⟨z,o,r,rfl⟩:=bP0 q;obtain⟨F,J,I,A,K⟩:=inv.box j o r;refine⟨F,J,I,⟨by simpa using A.len,A.one,λk v x hv n=>?_⟩,?_⟩
  ·rw[PK]at n
   cases u:o[k]? with
   |none=>rw[u]at n;cases n
   |some y=>
    rw[u]at n;simp only[Qg,Ql]at n;subst n;exact(A.rel k v y hv u).frz E C g p (aH.1 (inv.wfB j o r) y (Pn u))
  ·grind
 ·intro j l q
  obtain⟨z,o,r,rfl⟩:=bP0 q;exact V.okL.frz B g o (inv.wfB j o r)
 ·intro k en D
  exact(inv.arr k en D).keep m (inv.wfA k en D) rfl (λb d=>⟨by
   show upd G.O _ _ b=_;rw[upd_ne _ _ (λe=>by rw[e,p]at d;cases d)];exact d,rfl⟩)
 ·intro b d
  rcases f b with h|⟨h,_⟩
  ·exact inv.tag b (by rw[<-h];exact d)
  ·subst h;exact inv.tag _ (by rw[p];simp)
 ·intro b j d
  rcases f b with h|⟨_,h⟩
  ·exact inv.mineB b j (h▸d)
  ·simp_all
 ·intro b k d
  rcases f b with h|⟨_,h⟩
  ·exact inv.mineA b k (h▸d)
  ·simp_all
 ·intro b d
  rcases f b with h|⟨h,_⟩
  ·exact inv.fzm b (h▸d)
  ·subst h;exact .inr (inv.mineB _ i p)
 ·intro b d
  exact m.fz b (inv.F0 b d)
end
section
variable{T:Tab}{P:Program}{Φ:Fr}{σ:St}{a:Act}{w w':World}{G G':Gh}{K:VK}{o:Oper}{d:Nat}
def Inv.put'(c:List Mod)(inv:Inv T Φ (σ.apps c) a w G){b:Option Nat}(f:∀d,b=some d->Φ.wr d){v':Value}{v:V}(hv:Rv w G v' v)(e:v.ok (σ.apps c).hasB (σ.apps c).hasA):Inv T Φ (σ.put b v c) (a.put b v') w G:=by
 cases b with
 |none=>exact inv
 |some d=>exact inv.bA3 (f d rfl) hv e
def dX2{f:FuncId}{as:List Operand}{j:Array TypeId}(i:o.op= .call ⟨.value (.func f),⟨as⟩,j⟩)(b:callable P f=true):(execOp a.eval o).run P w= .ok (.enter f (as.map a.eval).toArray) w:=by
 unfold callable at b;split at b;rename_i e c;simp only[Px,bne_iff_ne]at b;have g:e.body≠none:=by intro h;rw[h]at b;simp at b
 simp[execOp,i,resolve,Act.eval,Deferred.ofValue,invoke,callFunc,c,g,b.2];cases b
def dO6{t g:Nat}{as:List Operand}{p:Array TypeId}{c f:Array Value}(m:o.op= .call ⟨.value (.tmp t),⟨as⟩,p⟩)(n:a.tmps.getD t undef= .func (.func g) c f)(b:callable P g=true):(execOp a.eval o).run P w= .ok (.enter g (c.toList++as.map a.eval++f.toList).toArray) w:=by
 unfold callable at b;split at b;rename_i k i;simp only[Px,bne_iff_ne]at b;have l:k.body≠none:=by intro h;rw[h]at b;simp at b
 have j:a.eval (.tmp t)= .func (.func g) c f:=n;have e:(c.toList++as.map a.eval++f.toList).toArray=c++(as.map a.eval).toArray++f:=by apply Array.ext';simp
 rw[e];simp[execOp,m,resolve,j,Deferred.ofValue,invoke,callFunc,i,l,b.2];cases b
def argsV_mem{b xs:List V}{x:V}(h:x∈argsV b xs):x∈b\/x∈xs:=by
 unfold argsV at h;grind [bT,Qw]
def aX3(inv:Inv T Φ σ a w G){f:Md}{t g:Nat}{as:List Operand}{b:List V}(r:σ.env t= .fn g b)(q:isFnC b=true)(h:kY T P f σ d g (argsV b (as.map σ.ev)) K):
 ∃k l:Array Value,a.tmps.getD t undef= .func (.func g) k l/\callable P g=true/\Calls P g (k.toList++as.map a.eval++l.toList).toArray w λe w'=>∃v',e= .returned v'/\∃v m G',K v m/\Inv T Φ (σ.apps m) a w' G'/\Rv w' G' v' v/\v.ok (σ.apps m).hasB (σ.apps m).hasA:=by
 have u:=inv.env t;have c:=inv.wfE t;rw[r]at u c
 have n:∀(i:Nat) v x,(as.map a.eval)[i]? =some v->(as.map σ.ev)[i]? =some x->Rv w G v x/\x.ok σ.hasB σ.hasA:=by
  intro i v x hv j;have hi:i<as.length:=by simpa using(Pg.1 hv).1
  have C:v=a.eval as[i] :=by simpa [hi]using hv.symm
  have D:x=σ.ev as[i] :=by simpa [hi]using j.symm
  rw[C,D];exact inv.ev as[i]
 obtain⟨k,l,z,A,B⟩:=u.fn_args q (as.map a.eval) (as.map σ.ev) Af (λi v x hv j=>(n i v x hv j).1);simp only[V.ok]at c;refine⟨k,l,z,cP8 inv A (λi v x hv j=>⟨B i v x hv j,?_⟩) h⟩;rcases argsV_mem (Pn j)with s|s
 ·exact aH.1 c x s
 ·obtain⟨y,_,rfl⟩:=PI.1 s
  exact(inv.ev y).2
def eM3{t e:TypeId}(f:P.underlying t=some (.slice e))(b:Option Addr)(n c:Nat):(binOp .eql t (.slice b n c) (.slice none 0 0)).run P w= .ok (.bool b.isNone) w:=by
 simp only[binOp];simp[run_equal_slice_nil w t e b n c f]
def eG0(B:bP T P)(inv:Inv T Φ σ a w G)(o:Oper)(hd:∀d,o.dst=some d->Φ.wr d){u:Md}(h:bW T P u σ d o.op K){Q:Exit->Act->World->Prop}:
 o.wp P a w (λy w'=>∃v ms G',K v ms/\Inv T Φ (σ.put o.dst v ms) y w' G') Q:=by
 unfold bW at h;split at h
 ·rename_i f as ts m
  rw[bC,dU]at h;obtain⟨H,b⟩:=bF2 inv as h;unfold Oper.wp;rw[dX2 m H,Oper.upon_enter];refine b.mono ?_;rintro e D ⟨v',rfl,v,ms,G',hk,inv',hv,hvo⟩;exact NJ
 ·rename_i t as ts m
  split at h
  ·rename_i g O J
   obtain⟨I,h⟩:=aT h;rw[bC,dU]at h;obtain⟨fs,lb,Y,H,b⟩:=aX3 inv J I h;unfold Oper.wp;rw[dO6 m Y H,Oper.upon_enter];refine b.mono ?_;rintro e D ⟨v',rfl,v,ms,G',hk,inv',hv,hvo⟩;exact⟨v,ms,G',hk,Inv.put' ms inv' hd hv hvo⟩
  ·exact h.elim
 ·rename_i t x lo hi mx m
  have k:∀ {E:VK} {ns:List Mod} {N:Gh},Inv T Φ (σ.apps ns) a w N->opVC T (σ.apps ns) d o.op E->(∀v ms,E v ms->K v (ns++ms))->o.wp P a w (λy w'=>∃v ms G',K v ms/\Inv T Φ (σ.put o.dst v ms) y w' G') Q:=by
   intro E ns N j F hk1;obtain⟨v',D,v,ms,G',i,hk,inv',hv,hvo⟩:=xQ B j o F;rw[<-dO]at inv' hvo;unfold Oper.wp;rcases i with i|⟨i,rfl⟩;rw[i,RX];exact O7;rw[i,Oper.upon_skip];exact O7
  rw[<-m]at h;split at h
  ·split at h
   ·rename_i gen ty l r
    obtain⟨O',j,_,_⟩:=inv.freeze r (.inl rfl);exact k j h (λ_ _ hk=>hk)
   ·rename_i gen ty l r
    obtain⟨O',j,_,_⟩:=inv.freeze r (.inr rfl);exact k j h (λ_ _ hk=>hk)
   ·exact k (ns:=[]) inv h (λ_ _ hk=>hk)
  ·exact k (ns:=[]) inv h (λ_ _ hk=>hk)
 ·rename_i V t x c U m
  split at h
  ·rename_i l hx
   obtain⟨W,ty,kd,L,z⟩:=h;subst W
   have C:∃e,P.underlying t=some (.slice e):=by
    obtain⟨X,F,R,_⟩:=(B t ty).und;rw[kd]at R;cases X<;>simp[kdOf]at R;exact⟨_,F⟩
   obtain⟨e,C⟩:=C;have s:=(inv.ev (.tmp x)).1;have M:σ.ev (.tmp x)= .sl l:=hx;rw[M]at s
   have k:∀(q:Option Addr) (n A:Nat),a.eval (.tmp x)= .slice q n A->(l≠ []->q.isNone=false)->o.wp P a w (λy w'=>∃v ms G',K v ms/\Inv T Φ (σ.put o.dst v ms) y w' G') Q:=by
    intro q n A S hl;have hk:=z q.isNone hl;unfold Oper.wp;rcases L with rfl|rfl;rw[yY (.tmp x) (.const (.slice none 0 0)) .eql t U m _ _ (.bool q.isNone) S rfl (qZ _ _ _ _ _ _ Af Af) (eM3 C q n A),RX];exact OM;rw[yY (.tmp x) (.const (.slice none 0 0)) .neq t U m _ _ (.bool (!q.isNone)) S rfl (qZ _ _ _ _ _ _ Af Af) (run_neq_slice_nil w t e q n A C),RX];exact OM
   generalize Z:a.eval (.tmp x)=xv at s;cases s<;>simp_all
  ·rw[<-m]at h
   obtain⟨v',D,v,ms,G',i,hk,inv',hv,hvo⟩:=xQ B inv o h;unfold Oper.wp;rcases i with i|⟨i,rfl⟩
   ·rw[i,RX]
    exact⟨v,ms,G',hk,Inv.put' ms inv' hd hv hvo⟩
   ·rw[i,Oper.upon_skip]
    exact⟨v,ms,G',hk,Inv.put' ms inv' hd hv hvo⟩
 ·obtain⟨v',D,v,ms,G',i,hk,inv',hv,hvo⟩:=xQ B inv o h
  unfold Oper.wp;rcases i with i|⟨i,rfl⟩
  ·rw[i,RX]
   exact NJ
  ·rw[i,Oper.upon_skip]
   exact NJ
def bD0{b:Option Nat}{f:FuncId}{args:Array Value}{w:World}{R:Ending->World->Prop}:CallsIn (FW b) 0 P f args w R↔Calls P f args w R:=callsIn_wide
def dR1{e:Option Nat}{b:String}{args:Array Value}{w:World}{R:Value->World->Prop}(h:Rows P b args w R):RowsIn (FW e) 0 P b args w R:=λc cs _=>by
 obtain⟨v,w',r,s⟩:=h c cs;exact⟨v,w',r,(stepsIn_wide (P:=P)).2 s⟩
def dD1{e:Option Nat}{o:Oper}(b:∀c,o.op≠ .defer c){next:Act->World->Prop}{Q:Exit->Act->World->Prop}(h:o.wp P a w next Q):o.wpIn (FW e) 0 P a w next Q:=by
 unfold Oper.wp at h;refine⟨λ_ _=>trivial,?_⟩;rw[Oper.semAt_eq _ _ _ b];generalize (execOp a.eval o).run P w=r at h⊢;cases r with
 |ok x w'=>
  cases x<;>simp only[Oper.upon,Oper.uponIn]at h⊢
  case value=>exact h
  case skip=>exact h
  case defer=>exact h
  case enter=>exact⟨λhh=>Et,bD0.2 h⟩
  case row=>exact⟨λhh=>Et,dR1 h⟩
 |halt x w'=>cases x<;>simp only[Oper.upon,Oper.uponIn]at h⊢<;>exact h
def eS3{b:Md}{e:Op}(h:bW T P b σ d e K):∀c,e≠ .defer c:=by
 rintro c rfl;exact(h:False).elim
def dF4(f:bP T P)(inv:Inv T Φ σ a w G)(o:Oper)(g:∀d,o.dst=some d->Φ.wr d){b:Md}(h:bW T P b σ d o.op K){Q:Exit->Act->World->Prop}(i:Option Nat):
 o.wpIn (FW i) 0 P a w (λe w'=>∃v c G',K v c/\Inv T Φ (σ.put o.dst v c) e w' G') Q:=dD1 (eS3 h) (eG0 f inv o g h)
def cM8(b:List Mod):∀(σ:St) (K:(Nat->V)->(Nat->Option (List V))->(Nat->Option AE)->Prop),dZ7 b σ.env σ.bx σ.ar K=K (σ.apps b).env (σ.apps b).bx (σ.apps b).ar:=by
 induction b with
 |nil=>intro σ K;rfl
 |cons m r e=>
  intro σ K;have c:σ.apps (m::r)=(m.app σ).apps r:=rfl;rw[c,<-e (m.app σ) K];cases m<;>rfl
def Step(T:Tab)(P:Program)(light:Md)(n:Nat)(ops:List Oper)(o:Oper)(σ:St)(K:St->Prop):Prop:=
 match o.guard with
 |none=>((∀d,o.dst=some d->d<n)/\bW T P light σ (o.dst.getD n) o.op λv ms=>K (σ.put o.dst v ms))\/
  (light= .free/\∃d g c cs,o.dst=some d/\d<n/\o.op= .makeFunc (.func g) ⟨[]⟩ ⟨c::cs⟩/\zX (T.ref g) σ.ar (c::cs) σ.env σ.bx λenv bx caps=>K ⟨upd env d (.fn g caps),bx,σ.ar⟩)\/
  (light= .free/\∃σ1,Le T σ σ1/\(∀d,o.dst=some d->d<n)/\bW T P light σ1 (o.dst.getD n) o.op λv ms=>K (σ1.put o.dst v ms))
 |some (j,want)=>∃s,tV ops j=some s/\(∀d,o.dst=some d->d<n)/\
  ((∃b,σ.env s= .lit (.bool b)/\if b=want then bW T P light σ (o.dst.getD n) o.op λv ms=>K (σ.put o.dst v ms)else K (σ.put o.dst (.tup []) []))\/(∃cs,σ.env s= .tup cs/\K (σ.put o.dst (.tup []) [])))
def qK{c:Md}{n:Nat}{b:Option Nat}{j:Op}{i:OpsK}{K:St->Prop}(h:aV2 T P c n b j i σ.env σ.bx σ.ar K):
 (∀d,b=some d->d<n)/\bW T P c σ (b.getD n) j λv e=>i (σ.put b v e).env (σ.put b v e).bx (σ.put b v e).ar K:=by
 unfold aV2 at h;cases b with
 |none=>
  refine⟨(λ_ h=>Ag),?_⟩;have f:=h;simp only[cM8 _ σ]at f;exact f
 |some d=>
  obtain⟨k,g⟩:=aT h;refine⟨(λl h=>by cases h;exact blt k),?_⟩;simp only[cM8 _ σ]at g;exact g
def aD8{n:Nat}{b:Option Nat}{c:OpsK}{K:St->Prop}(h:bF6 n b c σ.env σ.bx σ.ar K):
 (∀d,b=some d->d<n)/\c (σ.put b (.tup []) []).env (σ.put b (.tup []) []).bx (σ.put b (.tup []) []).ar K:=by
 unfold bF6 at h;cases b with
 |none=>exact⟨(λ_ h=>Ag),h⟩
 |some d=>
  obtain⟨f,e⟩:=aT h;exact⟨(λg h=>by cases h;exact blt f),e⟩
def cJ2{b:Type}(f:Nat->b)(s:Nat)(x:b)(h:f s=x):upd f s x=f:=by
 funext t;grind [upd_same,upd_ne]
def aX6{e:Md}{n:Nat}{ops:List Oper}{z:OpsK}{K:St->Prop}(h:bH0 T P e n ops o z σ.env σ.bx σ.ar K):
 Step T P e n ops o σ λr=>z r.env r.bx r.ar K:=by
 unfold bH0 at h;obtain⟨x,F,ty,H,v,k⟩:=o;unfold Step;simp only at h⊢;cases k with
 |none=>
  have f:dB2 T P e n x F z σ.env σ.bx σ.ar K:=h;unfold dB2 at f;split at f;rename_i g c cs;split at f;rename_i d;obtain⟨D,q⟩:=aT f;exact .inr (.inl ⟨rfl,d,g,c,cs,rfl,blt D,rfl,q⟩);exact f.elim;rename_i t m I;split at f;cases C:allR (λp:Nat×Operand=>allR V.atom (St.ev ⟨σ.env,σ.bx,σ.ar⟩ p.2).cells) I.toList with
  |true=>rw[C]at f;exact .inl (qK f)
  |false=>
   rw[C]at f;obtain⟨A,y,l⟩:=cR5.out f;obtain⟨J,L⟩:=qK l;exact .inr (.inr ⟨rfl,A,y,J,L⟩)
  exact .inl (qK f);exact .inl (qK f)
 |some g=>
  obtain⟨j,i⟩:=g;simp only at h⊢;split at h;rename_i s E;refine⟨s,E,?_⟩;split at h;rename_i b u;cases b with
  |true=>
   rw[show upd σ.env s (B true)=σ.env from cJ2 _ _ _ u]at h;cases i with
   |true=>
    obtain⟨l,q⟩:=qK (σ:=σ) h;simp_all
   |false=>
    obtain⟨l,q⟩:=aD8 (σ:=σ) h;simp_all
  |false=>
   rw[show upd σ.env s (B false)=σ.env from cJ2 _ _ _ u]at h;cases i with
   |true=>
    obtain⟨l,q⟩:=aD8 (σ:=σ) h;simp_all
   |false=>
    obtain⟨l,q⟩:=qK (σ:=σ) h;simp_all
  rename_i cs u;obtain⟨l,q⟩:=aD8 (σ:=σ) h;exact⟨l, .inr ⟨cs,u,q⟩⟩;exact h.elim;exact h.elim
def Run(T:Tab)(P:Program)(light:Md)(n:Nat)(ops:List Oper):List Oper->St->(St->Prop)->Prop
 | [],σ,K=>K σ
 |o::r,σ,K=>Step T P light n ops o σ λσ'=>Run T P light n ops r σ' K
theorem aJ6(f:Bool)(ar:Nat->Option AE)(c:Operand)(r:List Operand)(env:Nat->V)(bx:Nat->Option (List V))(K:(Nat->V)->(Nat->Option (List V))->List V->Prop):zX f ar (c::r) env bx K=(match St.ev ⟨env,bx,ar⟩ c with
 | .box i off=>match off,bx i with
   |0,some b=>match f with
    |true=>zX f ar r env bx λenv bx e=>K env bx (.box i 0::e)
    |false=>bJ b λb=>cond (allR V.atom b&&Nat.blt i 100000) (zX f ar r (λs=>(env s).frz i b) (frzB i b bx) λenv bx e=>K env bx (.fp b::e)) False
   |_,_=>False
 | .fp cs=>zX f ar r env bx λenv bx e=>K env bx (.fp cs::e)
 |_=>False):=rfl
theorem dS4{k:Bool}{ar:Nat->Option AE}{xs:List Operand}:∀ {env:Nat->V} {bx:Nat->Option (List V)} {K f:(Nat->V)->(Nat->Option (List V))->List V->Prop},(∀env bx b,K env bx b->f env bx b)->zX k ar xs env bx K->zX k ar xs env bx f:=by
 induction xs with
 |nil=>intro env bx K f e h;exact e _ _ _ h
 |cons c r j=>
  intro env bx K f e h;rw[aJ6]at h⊢;split at h;rename_i i off n;split at h;rename_i g p;cases k with
  |true=>exact j (λenv bx b=>e _ _ _) h
  |false=>
   simp only at h⊢;rw[bC]at h;obtain⟨m,l⟩:=aT h;rw[bC,m,Qo];exact j (λenv bx b=>e _ _ _) l
  exact h.elim;exact j (λenv bx b=>e _ _ _) h;exact h.elim
def dB3{x:V}{p:Nat->Prop}{q:Nat->Nat->Prop}(h:x.atom=true)(hok:x.ok p q):x.pure:=Jj
def eI4{xs:List Operand}:∀ {σ:St} {G:Gh} {K:(Nat->V)->(Nat->Option (List V))->List V->Prop},Inv T Φ σ a w G->zX false σ.ar xs σ.env σ.bx K->
 ∃env bx e G',K env bx e/\Inv T Φ ⟨env,bx,σ.ar⟩ a w G'/\Keep w w G G'/\e.length=xs.length/\bM e/\∀(i:Nat) c x,xs[i]? =some c->e[i]? =some x->Rv w G' (a.eval c) x:=by
 induction xs with
 |nil=>intro σ G K inv h;exact⟨σ.env,σ.bx,[],G,h,inv,Keep.refl w G,rfl,BH,λi c x hc=>He⟩
 |cons c r H=>
  intro σ G K inv h;rw[aJ6]at h;have L:St.ev ⟨σ.env,σ.bx,σ.ar⟩ c=σ.ev c:=rfl;obtain⟨hv,hok⟩:=inv.ev c
  have l:∀ {e:List V} {y G':Gh} {v:V},Keep w w y G'->Rv w y (a.eval c) v->v.pure->(∀(i:Nat) c x,r[i]? =some c->e[i]? =some x->Rv w G' (a.eval c) x)->∀(i:Nat) u x,(c::r)[i]? =some u->(v::e)[i]? =some x->Rv w G' (a.eval u) x:=by
   intro e y G' v M I N Q i u x hc k;cases i with
   |zero=>simp at hc k;subst hc;subst k;exact I.aW M N
   |succ i=>exact Q i u x CQ (by simpa using k)
  split at h;rename_i i off g;split at h;rename_i f m;simp only at h;rw[bC]at h;obtain⟨z,J⟩:=aT h;rw[Px]at z;have j:bM f:=aH.2 λx k=>dB3 (dY.1 z.1 x k) (aH.1 (inv.wfB i f m) x k);obtain⟨q,B⟩:=inv.bV0 m (blt z.2) j;obtain⟨env,bx,e,G',C,D,t,E,q5,F⟩:=H (σ:=⟨λs=>(σ.env s).frz i f,frzB i f σ.bx,σ.ar⟩) q J;obtain⟨cc,W,R,S,U⟩:=inv.box i f m
  have A:Rv w {G with O:=upd G.O (G.β i) .fz} (a.eval c) (.fp f):=by
   have n:σ.ev c= .box i 0:=g;have:=hv.frz R S j U hok;grind [zG]
  have hfpp:(V.fp f).pure:=by simp only[V.pure,V.ok];exact j
  exact⟨env,bx,_,G',C,D,⟨λb m=>t.fz b (B.fz b m),λ_ _=>rfl⟩,by simp[E],Gt,l t A hfpp F⟩;exact h.elim;rename_i cs g;obtain⟨env,bx,e,G',C,D,t,E,q5,F⟩:=H (σ:=σ) inv h;have n:σ.ev c= .fp cs:=g;rw[n]at hv hok;have hfpp:(V.fp cs).pure:=AL;exact⟨env,bx,_,G',C,D,t,by simp[E],Gt,l t hv hfpp F⟩;exact h.elim
def eF6{xs:List Operand}(inv:Inv T Φ σ a w G):∀ {K:(Nat->V)->(Nat->Option (List V))->List V->Prop},zX true σ.ar xs σ.env σ.bx K->
 ∃b,K σ.env σ.bx b/\b.length=xs.length/\V.okL σ.hasB σ.hasA b/\∀(i:Nat) c x,xs[i]? =some c->b[i]? =some x->Rv w G (a.eval c) x:=by
 induction xs with
 |nil=>intro K h;exact⟨[],h,rfl,BH,λi c x hc=>He⟩
 |cons c r k=>
  intro K h;rw[aJ6]at h;obtain⟨hv,j⟩:=inv.ev c
  have f:∀(g:V),σ.ev c=g->(zX true σ.ar r σ.env σ.bx λenv bx b=>K env bx (g::b))->∃b,K σ.env σ.bx b/\b.length=(c::r).length/\V.okL σ.hasB σ.hasA b/\∀(i:Nat) c' x,(c::r)[i]? =some c'->b[i]? =some x->Rv w G (a.eval c') x:=by
   grind [V.okL]
  split at h;rename_i i off e;split at h;exact f _ e h;exact h.elim;rename_i cs e;exact f _ e h;exact h.elim
def dA6{k:Bool}{xs:List Operand}{K:(Nat->V)->(Nat->Option (List V))->List V->Prop}(inv:Inv T Φ σ a w G)(h:zX k σ.ar xs σ.env σ.bx K):
 ∃env bx b G',K env bx b/\Inv T Φ ⟨env,bx,σ.ar⟩ a w G'/\b.length=xs.length/\V.okL (St.hasB ⟨env,bx,σ.ar⟩) (St.hasA ⟨env,bx,σ.ar⟩) b/\∀(i:Nat) c x,xs[i]? =some c->b[i]? =some x->Rv w G' (a.eval c) x:=by
 cases k with
 |true=>
  obtain⟨b,e,f,j,g⟩:=eF6 inv h;exact⟨σ.env,σ.bx,b,G,e,inv,f,j,g⟩
 |false=>
  obtain⟨env,bx,b,G',e,f,j,g,m,n⟩:=eI4 inv h;exact⟨env,bx,b,G',e,f,g,aH.2 λx l=>V.pure.ok (aH.1 m x l) _ _,n⟩
def Step.mono{b:Md}{n:Nat}{ops:List Oper}{K e:St->Prop}(k:∀(σ:St) (f g:VK),(∀v i,f v i->g v i)->bW T P b σ (o.dst.getD n) o.op f->bW T P b σ (o.dst.getD n) o.op g)(h:Step T P b n ops o σ K)(j:∀c,K c->e c):Step T P b n ops o σ e:=by
 unfold Step at*;split at h;grind [dS4];grind
def xK(w:World)(G:Gh):Rv w G undef (.tup []):= .tup #[] [] rfl (λi c x hc=>He)
def bZ3(L:bP T P)(inv:Inv T Φ σ a w G){l:Md}{ops:List Oper}{K:St->Prop}{e:Array Oper}(hA:e.toList=ops)(m:∀d,o.dst=some d->Φ.keep d=none)(h:Step T P l Φ.n ops o σ K){Q:Exit->Act->World->Prop}(E:Option Nat):
 if Region.wanted o (yielded e a.tmps)=true then o.wpIn (FW E) 0 P a w (λF w'=>∃f G',K f/\Inv T Φ f F w' G') Q else∃G',∃f,K f/\Inv T Φ f (a.put o.dst undef) w G':=by
 unfold Step at h
 have J:(∀d,o.dst=some d->d<Φ.n)->(bW T P l σ (o.dst.getD Φ.n) o.op λv W=>K (σ.put o.dst v W))->o.wpIn (FW E) 0 P a w (λF w'=>∃f G',K f/\Inv T Φ f F w' G') Q:=by
  intro H I;refine Oper.wpIn_mono ?_ (dF4 L inv o (λd h=>⟨H d h,m d h⟩) I (Q:=Q) E);grind
 have skip:(∀d,o.dst=some d->d<Φ.n)->K (σ.put o.dst (.tup []) [])->∃G',∃f,K f/\Inv T Φ f (a.put o.dst undef) w G':=by
  intro H O;refine⟨G,_,O,?_⟩;exact Inv.put' [] inv (λd h=>⟨H d h,m d h⟩) (xK w G) DL
 split at h
 ·rename_i hg
  rw[Pm Dw];rcases h with h|⟨_,d,g,c,cs,q,y,r,N⟩|⟨_,Z,q,y,r⟩
  ·exact J h.1 h.2
  rotate_left
  ·unfold Le at q
   obtain⟨G1,z⟩:=q Φ a w G inv;refine Oper.wpIn_mono ?_ (dF4 L z o (λd h=>⟨y d h,m d h⟩) r (Q:=Q) E);grind
  ·obtain⟨env,bx,t,G',A,D,X,Y,q6⟩:=dA6 inv N
   have R:(execOp a.eval o).run P w= .ok (.value (.func (.func g) #[] ((c::cs).map a.eval).toArray)) w:=by
    simp[execOp,r,Instr.makeFunc]
   refine dD1 (λc=>by rw[r];exact λh=>by cases h) ?_;unfold Oper.wp;rw[R,RX];refine⟨_,G',A,?_⟩;rw[q];refine Inv.bA3 (σ:=⟨env,bx,σ.ar⟩) D ⟨y,m d q⟩ ?_ (by simp only[V.ok];exact Y);refine .fn g _ t (by simp[X]) (λi u x hu hx=>?_);grind
 ·rename_i j B hg
  obtain⟨s,q,y,r⟩:=h
  have k:(e[j]?).bind (·.dst)=some s:=by
   grind [uN,tV]
  have U:Region.wanted o (yielded e a.tmps)=(yielded e a.tmps j==some B):=Dw;have C:=inv.env s;rcases r with⟨b,A,D⟩|⟨cs,A,D⟩
  ·rw[A]at C
   have hv:=C.bH;have S:a.tmps[s]? =some (.bool b):=KJ;have M:yielded e a.tmps j=some b:=by simp[yielded,k,S]
   grind
  ·rw[A]at C
   obtain⟨vs,hv,_⟩:=C.eP1
   have M:yielded e a.tmps j=none:=by
    simp only[yielded,k,Option.bind_some];cases h:a.tmps[s]? <;>simp_all
   rw[U,M,Ph Af];exact skip y D
def eB0(s:bP T P){e:Md}{ops:List Oper}{K:St->Prop}{c:Array Oper}(m:c.toList=ops){Q:Exit->Act->World->Prop}(k:Option Nat)(q:∀b j w' G',K b->Inv T Φ b j w' G'->Q .normal j w'):
 ∀(l:List Oper) (σ:St) (a:Act) (w:World) (G:Gh),(∀o∈l,∀d,o.dst=some d->Φ.keep d=none)->Inv T Φ σ a w G->Run T P e Φ.n ops l σ K->wpListIn (FW k) 0 P c Q l a w:=by
 intro l;induction l with
 |nil=>intro σ a w G _ inv h;exact q σ a w G h inv
 |cons o r v=>
  intro σ a w G f inv h;have:=bZ3 s inv m (o:=o) (f o Af) h (Q:=Q) k;unfold wpListIn;split;rename_i i;rw[Pm i]at this;grind [Oper.wpIn_mono];rename_i i;rw[Ph i]at this;obtain⟨G',b,t,g⟩:=this;exact⟨λ_ _=>trivial,v b _ w G' (λo u=>f o (by simp[u])) g t⟩
end
end Go.Ab
