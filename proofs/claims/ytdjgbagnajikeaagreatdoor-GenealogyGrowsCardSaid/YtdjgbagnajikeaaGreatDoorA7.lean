/-
  What comes back from a call to which variables are lent.
-/
import Derived.Test.YtdjgbagnajikeaaGreatDoorA6
import Derived.Laws.Cover3
import Derived.Deep.LoopGhost
set_option linter.unusedVariables false
set_option linter.unusedSimpArgs false
noncomputable section
namespace Go.Ab
section
variable{T:Tab}{P:Program}{Φ:Fr}{σ:St}{a:Act}{w w':World}{G G':Gh}{K:VK}{o:Oper}{d:Nat}
def Lent(n i:Nat):Prop:=100000<=i/\i<100000+n
theorem zL(ar:Nat->Option AE)(is ok:List Nat)(y:V)(r:List V)(x:V)(xr:List V)(N:Nat)(K:List V->List Mod->Prop):oJ ar is ok (y::r) (x::xr) N K=(match y with
        | .own e l=>xO ar ok N .own e l x λv m=>oJ ar is ok r xr (N+1000) λvs b=>K (v::vs) (m::b)
        | .ap e l=>xO ar ok N .ap e l x λv m=>oJ ar is ok r xr (N+1000) λvs b=>K (v::vs) (m::b)
        |y=>force (y.ren (renF is)) λv=>oJ ar is ok r xr (N+1000) λvs b=>K (v::vs) b):=rfl
theorem aT3{ar:Nat->Option AE}{ok:List Nat}{N:Nat}{b:AK}{e:TypeId}{l:List V}{x:V}{K:V->Mod->Prop}(h:xO ar ok N b e l x K):
 (∃k g en,x= .arr k g/\k∈ok/\ar k=some en/\K (.arr k (en.gen+1)) (.a k ⟨en.gen+1,b,e,l⟩))\/(ar N=none/\K (.arr N 0) (.a N ⟨0,b,e,l⟩)):=by
 unfold xO at h;grind [pM]
theorem bJ5{ar:Nat->Option AE}{ok:List Nat}{N:Nat}{c:AK}{e:TypeId}{l:List V}{x:V}{K b:V->Mod->Prop}(f:∀v m,K v m->b v m)(h:xO ar ok N c e l x K):xO ar ok N c e l x b:=by
 unfold xO at*;split at h<;>grind
theorem cQ2{ar:Nat->Option AE}{is ok:List Nat}:∀ {ys xs:List V} {N:Nat} {K e:List V->List Mod->Prop},(∀vs c,K vs c->e vs c)->oJ ar is ok ys xs N K->oJ ar is ok ys xs N e:=by
 intro ys
 induction ys with
 |nil=>
  intro xs N K e b h
  cases xs with
  |nil=>exact b _ _ h
  |cons x r=>exact(h:False).elim
 |cons y r f=>
  intro xs N K e b h
  cases xs with
  |nil=>exact(h:False).elim
  |cons x xr=>
   rw[zL]at h⊢;split at h
   ·grind [bJ5]
   ·exact bJ5 (λv m h=>f (λvs c=>b _ _) h) h
   ·rw[force_eq]at h⊢
    exact f (λvs c=>b _ _) h
set_option maxHeartbeats 1600000 in
theorem aU0{Gx:Gh}{σ0:St}{is ok:List Nat}{n:Nat}:∀(ys f:List V) (N t:Nat) (σ:St) (G:Gh) (us:List Value) (K:List V->List Mod->Prop),
 Inv T Φ σ a w G->us.length=ys.length->(∀q,q<ys.length->σ0.ar (N+1000*q)=none->σ.ar (N+1000*q)=none)->
 (∀(q:Nat) k g en,f[q]? =some (.arr k g)->k∈ok->σ0.ar k=some en->∀g',σ.hasA k g'->g'<=en.gen)->
 (∀(q q':Nat) k g g',f[q]? =some (.arr k g)->f[q']? =some (.arr k g')->k∈ok->q=q')->
 (∀(i:Nat) u y,us[i]? =some u->ys[i]? =some y->RbB T w Gx n (t+i) u y)->Keep w w Gx G->(∀i,Lent n i->G.β (renF is i)=Gx.β i/\σ.hasB (renF is i))->
 (∀i b,i<ys.length->Gx.O b= .ar (t+i)->G.O b= .ext/\Φ.mine b/\b<w.heap.size)->oJ σ0.ar is ok ys f N K->
 ∃vs c G',K vs c/\Inv T Φ (σ.apps c) a w G'/\vs.length=ys.length/\(∀(i:Nat) u v,us[i]? =some u->vs[i]? =some v->Rv w G' u v/\v.ok (σ.apps c).hasB (σ.apps c).hasA)/\
  G'.β=G.β/\(∀k g,σ.hasA k g->G'.av k g=G.av k g)/\(∀b,G.O b≠ .ext->G'.O b=G.O b)/\(∀b,(∀i,i<ys.length->Gx.O b≠ .ar (t+i))->G'.O b=G.O b)/\
  (∀k g,σ.hasA k g->(σ.apps c).hasA k g)/\(σ.apps c).bx=σ.bx/\
  (∀k,(∀q,q<ys.length->σ0.ar (N+1000*q)=none->k≠N+1000*q)->(∀(q:Nat) g,f[q]? =some (.arr k g)->k∉ok)->(σ.apps c).ar k=σ.ar k):=by
 intro ys
 induction ys with
 |nil=>
  intro f N t σ G us K inv hl _ _ _ _ _ _ _ h;have aq:us=[] :=Tc BD;subst aq
  cases f with
  |nil=>exact⟨[],[],G,h,inv,rfl,λi u v hu=>by simp at hu,rfl,λ_ _ _=>rfl,λ_ _=>rfl,λ_ _=>rfl,λ_ _ h=>h,rfl,λ_ _ _=>rfl⟩
  |cons x r=>exact(h:False).elim
 |cons y r ih=>
  intro f N t σ G us K inv hl j af B ae J H s h
  cases f with
  |nil=>exact(h:False).elim
  |cons x xr=>
  cases us with
  |nil=>simp at hl
  |cons u ur=>
   have am:ur.length=r.length:=BD
   have W:∀(i:Nat) u y,ur[i]? =some u->r[i]? =some y->RbB T w Gx n (t+1+i) u y:=λi u y hu hy=>by
    have:=ae (i+1) u y Bj Dk;rwa [show t+(i+1)=t+1+i from Aa]at this
   have U:∀(k g:Nat) (z:AK) (e:TypeId) (l:List V),(z= .own\/z= .ap)->(∀g',σ.hasA k g'->g'<g)->(∀q,q<r.length->σ0.ar (N+1000+1000*q)=none->k≠N+1000+1000*q)->
    (∀(q:Nat) k' g' en,xr[q]? =some (.arr k' g')->k'∈ok->σ0.ar k'=some en->k'≠k)->
    ((∃g0,x= .arr k g0/\k∈ok)\/(k=N/\σ0.ar N=none))->e<T.n e->bM l->
    (gJ T w Gx t u e l\/(z= .ap/\Rv w Gx u (.cap l)/\∀x∈l,x.cells.length=(T.row e).size))->
    (oJ σ0.ar is ok r xr (N+1000) λvs c=>K (.arr k g::vs) (.a k ⟨g,z,e,l⟩::c))->
    ∃vs c G',K vs c/\Inv T Φ (σ.apps c) a w G'/\vs.length=(y::r).length/\(∀(i:Nat) F v,(u::ur)[i]? =some F->vs[i]? =some v->Rv w G' F v/\v.ok (σ.apps c).hasB (σ.apps c).hasA)/\
     G'.β=G.β/\(∀k g,σ.hasA k g->G'.av k g=G.av k g)/\(∀b,G.O b≠ .ext->G'.O b=G.O b)/\(∀b,(∀i,i< (y::r).length->Gx.O b≠ .ar (t+i))->G'.O b=G.O b)/\
     (∀k g,σ.hasA k g->(σ.apps c).hasA k g)/\(σ.apps c).bx=σ.bx/\
     (∀k,(∀q,q< (y::r).length->σ0.ar (N+1000*q)=none->k≠N+1000*q)->(∀(q:Nat) g,(x::xr)[q]? =some (.arr k g)->k∉ok)->(σ.apps c).ar k=σ.ar k):=by
    intro k g z e l S hno as ah R he hp D A;obtain⟨G1,ag,a1,a2,a3,a4,a5⟩:=inv.eV5 (k:=k) (gen:=g) hno S he hp D J (λb hb=>s 0 b Ae FH);have an:∀k' g',σ.hasA k' g'->(σ.apps [.a k ⟨g,z,e,l⟩]).hasA k' g':=λk' g' hh=>KD
    have L:∀k',k'≠k->(σ.apps [.a k ⟨g,z,e,l⟩]).ar k'=σ.ar k':=λk' e1=>upd_ne _ _ e1;have al:∀b,G.O b≠ .ext->G1.O b=G.O b:=λb hb=>a3 b (λau=>hb (s 0 b Ae (by simpa using au)).1)
    have aj:Keep w w G G1:=⟨λb hb=>(al b AP).trans hb,λ_ _=>rfl⟩
    obtain⟨vs,c,G',b1,b2,b3,b4,b5,b6,b7,b8,b9,Q,ac⟩:=ih xr (N+1000) (t+1) (σ.apps [.a k ⟨g,z,e,l⟩]) G1 ur _ ag am
     (λq hq hn=>by
      rw[L _ (Ne.symm (as q hq hn))];have:=j (q+1) AU BB;rwa [show N+1000*(q+1)=N+1000+1000*q from Aa]at this)
     (λq k' g' en hq E hen ax hh=>by
      have ai:=ah q k' g' en hq E hen;obtain⟨Z,M,X⟩:=hh;rw[L _ ai]at M;exact af (q+1) k' g' en D8 E hen ax ⟨Z,M,X⟩)
     (λq q' k' g1 g2 hq ad E=>by
      have:=B (q+1) (q'+1) k' g1 g2 D8 (by simpa using ad) E
      omega)
     W ⟨λb hb=>aj.fz b (J.fz b hb),λ_ _=>rfl⟩
     (λi hi=>⟨by rw[a4];exact(H i hi).1,(H i hi).2⟩)
     (λi b hi hb=>by
      have C:Gx.O b= .ar (t+(i+1)):=FZ;have:=s (i+1) b AU C
      refine⟨?_,this.2⟩;rw[a3 b (by rw[hb];intro e;have:=Tag.ar.inj e;omega)]
      exact this.1) A
    refine⟨_,_,G',b1,b2,by simp[b3],?_,b5.trans a4,λk' g' hh=>(b6 k' g' (an k' g' hh)).trans (a5 k' g' hh),λb hb=>?_,λb hb=>?_,λk' g' hh=>b9 k' g' (an k' g' hh),Q,λk' M X=>?_⟩
    ·intro i F v hu hv
     cases i with
     |zero=>
      simp at hu hv;subst hu;subst hv;have hA:(σ.apps [.a k ⟨g,z,e,l⟩]).hasA k g:=⟨_,upd_same _ _ _,QH _⟩;have e1:G'.av k g=u:=(b6 k g hA).trans a1
      refine⟨?_,by simp only[V.ok];exact b9 k g hA⟩
      rw[<-e1];exact .arr k g (by rw[e1];exact a2)
     |succ i=>exact b4 i F v Bj Bl
    ·have:=al b hb
     rw[b7 b (by rw[this];exact hb)]
     exact this
    ·rw[b8 b (λi hi=>DF),a3 b (by simpa using hb 0 (by simp))]
    ·have ab:k'≠k:=by
      rintro rfl;rcases R with⟨g0,hx,E⟩|⟨rfl,hn⟩
      ·exact X 0 g0 BH E
      ·exact M 0 Ae H6 Ae
     have:=ac k' (λq hq hn=>by
      have:=M (q+1) AU BB;rwa [show N+1000*(q+1)=N+1000+1000*q from Aa]at this) (λq g hq=>X (q+1) g D8)
     exact this.trans (L k' ab)
   have Y:linear y=false->(oJ σ0.ar is ok r xr (N+1000) λvs c=>K (y.ren (renF is)::vs) c)->
    ∃vs c G',K vs c/\Inv T Φ (σ.apps c) a w G'/\vs.length=(y::r).length/\(∀(i:Nat) F v,(u::ur)[i]? =some F->vs[i]? =some v->Rv w G' F v/\v.ok (σ.apps c).hasB (σ.apps c).hasA)/\
     G'.β=G.β/\(∀k g,σ.hasA k g->G'.av k g=G.av k g)/\(∀b,G.O b≠ .ext->G'.O b=G.O b)/\(∀b,(∀i,i< (y::r).length->Gx.O b≠ .ar (t+i))->G'.O b=G.O b)/\
     (∀k g,σ.hasA k g->(σ.apps c).hasA k g)/\(σ.apps c).bx=σ.bx/\
     (∀k,(∀q,q< (y::r).length->σ0.ar (N+1000*q)=none->k≠N+1000*q)->(∀(q:Nat) g,(x::xr)[q]? =some (.arr k g)->k∉ok)->(σ.apps c).ar k=σ.ar k):=by
    intro ao A
    obtain⟨vs,c,G',b1,b2,b3,b4,b5,b6,b7,b8,b9,Q,ac⟩:=ih xr (N+1000) (t+1) σ G ur _ inv am
     (λq hq hn=>by
      have:=j (q+1) AU BB;rwa [show N+1000*(q+1)=N+1000+1000*q from Aa]at this)
     (λq k' g' en hq E hen=>af (q+1) k' g' en D8 E hen)
     (λq q' k' g1 g2 hq ad E=>by
      have:=B (q+1) (q'+1) k' g1 g2 D8 (by simpa using ad) E
      omega)
     W J H
     (λi b hi hb=>by
      have C:Gx.O b= .ar (t+(i+1)):=FZ;exact s (i+1) b AU C) A
    refine⟨_,_,G',b1,b2,by simp[b3],?_,b5,b6,b7,λb hb=>b8 b (λi hi=>DF),b9,Q,λk' M X=>?_⟩
    ·intro i F v hu hv
     cases i with
     |zero=>
      simp at hu hv;subst hu;subst hv;have hb:=ae 0 u y rfl rfl
      have C:y.ok (Lent n) (λ_ _=>False)/\Rv w Gx u y:=by
       unfold RbB at hb;split at hb
       ·simp[linear]at ao
       ·simp[linear]at ao
       ·exact hb
      have aw:Keep w w Gx G':=⟨λb hb=>(b7 b (by rw[J.fz b hb];simp)).trans (J.fz b hb),λ_ _=>rfl⟩
      refine⟨C.2.ren aw C.1 (λi hi=>by rw[b5];exact(H i hi).1),?_⟩
      refine V.ok.imp (λ_ h=>h) (λ_ _ h=>h.elim) _ (V.ok.ren (p':=(σ.apps c).hasB) (λi hi=>?_) y C.1);unfold St.hasB;rw[Q];exact(H i hi).2
     |succ i=>exact b4 i F v Bj Bl
    ·exact ac k' (λq hq hn=>by
      have:=M (q+1) AU BB;rwa [show N+1000*(q+1)=N+1000+1000*q from Aa]at this) (λq g hq=>X (q+1) g D8)
   have aa:=ae 0 u y rfl rfl;rw[Tq]at aa
   have go:∀(z:AK) (e:TypeId) (l:List V),(z= .own\/z= .ap)->e<T.n e->bM l->(gJ T w Gx t u e l\/(z= .ap/\Rv w Gx u (.cap l)/\∀x∈l,x.cells.length=(T.row e).size))->
    (xO σ0.ar ok N z e l x λv m=>oJ σ0.ar is ok r xr (N+1000) λvs c=>K (v::vs) (m::c))->
    ∃vs c G',K vs c/\Inv T Φ (σ.apps c) a w G'/\vs.length=(y::r).length/\(∀(i:Nat) F v,(u::ur)[i]? =some F->vs[i]? =some v->Rv w G' F v/\v.ok (σ.apps c).hasB (σ.apps c).hasA)/\
     G'.β=G.β/\(∀k g,σ.hasA k g->G'.av k g=G.av k g)/\(∀b,G.O b≠ .ext->G'.O b=G.O b)/\(∀b,(∀i,i< (y::r).length->Gx.O b≠ .ar (t+i))->G'.O b=G.O b)/\
     (∀k g,σ.hasA k g->(σ.apps c).hasA k g)/\(σ.apps c).bx=σ.bx/\
     (∀k,(∀q,q< (y::r).length->σ0.ar (N+1000*q)=none->k≠N+1000*q)->(∀(q:Nat) g,(x::xr)[q]? =some (.arr k g)->k∉ok)->(σ.apps c).ar k=σ.ar k):=by
    intro z e l S he hp D hA;rcases aT3 hA with⟨k,g,en,hx,E,hen,hK⟩|⟨hn,hK⟩
    ·refine U k (en.gen+1) z e l S (λg' ay=>Nat.lt_succ_of_le (af 0 k g en BH E hen g' ay)) (λq _ hn e=>ED) (λq k' g' Z hq ab I e=>?_) (.inl ⟨g,hx,E⟩) he hp D hK
     subst e;have:=B 0 (q+1) k' g g' BH D8 ab;omega
    ·have ak:=j 0 Ae H6
     rw[Nat.mul_zero,Tq]at ak;exact U N 0 z e l S (zK ak 0) (λq _ _=>Aa) (λq k' g' Z _ _ I e=>by rw[e,hn]at I;cases I) (.inr ⟨rfl,hn⟩) he hp D hK
   rw[zL]at h;split at h
   ·rename_i e l
    obtain⟨q1,q2,q3⟩:=aa;exact go .own e l (.inl rfl) q1 q2 (.inl q3) h
   ·rename_i e l
    obtain⟨q1,q2,q3⟩:=aa;exact go .ap e l (.inr rfl) q1 q2 (q3.imp id (λh=>⟨rfl,h⟩)) h
   ·rename_i M X
    rw[force_eq]at h;exact Y (oW M X) h
theorem aJ1(bx:Nat->Option (List V))(ar:Nat->Option AE)(c ok:List Nat)(b:List V)(r:List (List V))(i:Nat)(e:List Nat)(N:Nat)(K:List Mod->Prop):aB3 bx ar c ok (b::r) (i::e) N K=(match bx i with
        |some cs=>oJ ar c ok b cs N λvs f=>aB3 bx ar c ok r e (N+1000000) λns=>K (appR f (.b i vs::ns))
        |none=>False):=rfl
set_option maxHeartbeats 1600000 in
theorem cI1{Gx:Gh}{σ0:St}{is ok:List Nat}{n:Nat}(ae:∀k∈ok,σ0.ar k≠none):∀(bs:List (List V)) (z:List Nat) (N t:Nat) (σ:St) (G:Gh) (K:List Mod->Prop),
 Inv T Φ σ a w G->
 (∀(j:Nat) b i,bs[j]? =some b->z[j]? =some i->∃cs old c ty,σ0.bx i=some cs/\σ.bx i=some old/\w.heap[G.β i]? =some (.cells c ty (0,0))/\c.size=b.length/\b.length<1000/\
  ∀(q:Nat) v y,c[q]? =some v->b[q]? =some y->v.oneCell'=true/\RbB T w Gx n (t+100000*j+q) v y)->
 (∀(j:Nat) b,bs[j]? =some b->∀q,q<b.length->σ0.ar (N+1000000*j+1000*q)=none->σ.ar (N+1000000*j+1000*q)=none)->
 (∀(j:Nat) i cs (q:Nat) k g en,z[j]? =some i->σ0.bx i=some cs->cs[q]? =some (.arr k g)->k∈ok->σ0.ar k=some en->∀C,σ.hasA k C->C<=en.gen)->
 (∀(j j':Nat) i l cs m (q E:Nat) k g C,z[j]? =some i->z[j']? =some l->σ0.bx i=some cs->σ0.bx l=some m->cs[q]? =some (.arr k g)->m[E]? =some (.arr k C)->k∈ok->j=j'/\q=E)->
 Keep w w Gx G->(∀i,Lent n i->G.β (renF is i)=Gx.β i/\σ.hasB (renF is i))->
 (∀(j:Nat) b,bs[j]? =some b->∀q f,q<b.length->Gx.O f= .ar (t+100000*j+q)->G.O f= .ext/\Φ.mine f/\f<w.heap.size)->aB3 σ0.bx σ0.ar is ok bs z N K->
 ∃ns G',K ns/\Inv T Φ (σ.apps ns) a w G'/\G'.β=G.β/\(∀k g,σ.hasA k g->G'.av k g=G.av k g)/\(∀b,G.O b≠ .ext->G'.O b=G.O b)/\
  (∀k g,σ.hasA k g->(σ.apps ns).hasA k g)/\(∀i,σ.hasB i->(σ.apps ns).hasB i)/\∀i∈z,∃cs,Mod.b i cs∈ns:=by
 intro bs
 induction bs with
 |nil=>
  intro z N t σ G K inv _ _ _ _ _ _ _ h
  cases z with
  |nil=>exact⟨[],G,h,inv,rfl,λ_ _ _=>rfl,λ_ _=>rfl,λ_ _ h=>h,λ_ h=>h,λi hi=>by cases hi⟩
  |cons i r=>exact(h:False).elim
 |cons b r ih=>
  intro z N t σ G K inv ac x ag s M L B h
  cases z with
  |nil=>exact(h:False).elim
  |cons i z=>
   rw[aJ1]at h;obtain⟨cs,old,c,ty,Y,x2,x3,x4,aw,x5⟩:=ac 0 b i rfl rfl;rw[Y]at h;simp only at h;have hlen:c.toList.length=b.length:=by simpa using x4
   obtain⟨vs,I,G1,b1,b2,b3,b4,b5,b6,b7,b8,b9,ah,Z⟩:=aU0 (Gx:=Gx) (σ0:=σ0) (is:=is) (ok:=ok) (n:=n) b cs N t σ G c.toList _ inv hlen
    (λq hq hn=>by
     have:=x 0 b rfl q hq H6;simpa using this)
    (λq k g en hq A hen=>ag 0 i cs q k g en rfl Y hq A hen)
    (λq E k g C hq D A=>(s 0 0 i i cs cs q E k g C rfl rfl Y Y hq D A).2)
    (λq u y hu hy=>by
     have:=(x5 q u y Bj hy).2;simpa using this) M L
    (λq f hq hb=>B 0 b rfl q f hq FH) h
   have aa:V.okL (σ.apps I).hasB (σ.apps I).hasA vs:=aH.2 λv hv=>by
    obtain⟨q,hq⟩:=QY hv;have Q:q<c.toList.length:=by rw[hlen,<-b3];exact(QD.1 hq).1
    exact(b4 q _ v (QE Q) hq).2
   have ai:RvL w G1 c.toList vs:=⟨by rw[hlen,b3],λu hu=>by
    obtain⟨q,hq⟩:=QY hu;have Q:q<b.length:=EF;exact(x5 q u _ D8 (QE Q)).1,λq u v hu hv=>(b4 q u v hu hv).1⟩
   have ab:Inv T Φ ((σ.apps I).apps [.b i vs]) a w G1:=b2.eJ4 (i:=i) (old:=old) (by rw[ah];exact x2) (c:=c) (t:=ty) ai aa (by rw[b5];exact x3) (λ_ _=>rfl) rfl rfl rfl rfl
   have J:∀l,σ.hasB l->((σ.apps I).apps [.b i vs]).hasB l:=λl ⟨y,hy⟩=>by
    by_cases e:l=i
    ·subst e;exact⟨vs,upd_same _ _ _⟩
    ·exact⟨y,by show upd (σ.apps I).bx i _ l=_;rw[upd_ne _ _ e,ah];exact hy⟩
   have H:((σ.apps I).apps [.b i vs]).ar=(σ.apps I).ar:=rfl
   have R:∀(j:Nat) l m (q:Nat) k g,z[j]? =some l->σ0.bx l=some m->m[q]? =some (.arr k g)->k∈ok->∀(q0:Nat) g0,cs[q0]? =some (.arr k g0)->False:=by
    intro j l m q k g W U hq A q0 g0 S;have:=(s 0 (j+1) i l cs m q0 q k g0 g rfl (by simpa using W) Y U S hq A).1
    omega
   obtain⟨ns,G',d1,d2,d3,d4,d5,d6,d7,d8⟩:=ih z (N+1000000) (t+100000) ((σ.apps I).apps [.b i vs]) G1 _ ab
    (λj b' l hb hi=>by
     obtain⟨m,ad,c',aq,y1,y2,y3,y4,aj,y5⟩:=ac (j+1) b' l FH H7;obtain⟨af,h2⟩:=J l ⟨ad,y2⟩;refine⟨m,af,c',aq,y1,h2,by rw[b5];exact y3,y4,aj,λq v y hv hy=>?_⟩
     have:=y5 q v y hv hy;rwa [show t+100000*(j+1)+q=t+100000+100000*j+q from Aa]at this)
    (λj b' hb q hq hn=>by
     rw[H,Z _ (λE D _ e=>Aa) (λE C D A=>ae _ A hn)];have:=x (j+1) b' FH q hq (by rw[show N+1000000*(j+1)+1000*q=N+1000000+1000000*j+1000*q by omega];exact hn)
     rwa [show N+1000000*(j+1)+1000*q=N+1000000+1000000*j+1000*q from Aa]at this)
    (λj l m q k g en W U hq A hen C X=>by
     refine ag (j+1) l m q k g en (by simpa using W) U hq A hen C ?_
     obtain⟨am,h1,h2⟩:=X;rw[H,Z k (λE _ hn e=>ED) (λq0 g0 S _=>R j l m q k g W U hq A q0 g0 S)]at h1;exact⟨am,h1,h2⟩)
    (λj j' i1 i2 ao ak q E k g C W an U as hq D A=>by
     have:=s (j+1) (j'+1) i1 i2 ao ak q E k g C (by simpa using W) (by simpa using an) U as hq D A
     omega)
    ⟨λf hb=>(b7 f (by rw[M.fz f hb];simp)).trans (M.fz f hb),λ_ _=>rfl⟩
    (λl F=>⟨by rw[b5];exact(L l F).1,J _ (L l F).2⟩)
    (λj b' hb q f hq hO=>by
     have al:Gx.O f= .ar (t+100000*(j+1)+q):=by rw[show t+100000*(j+1)+q=t+100000+100000*j+q by omega];exact hO
     have:=B (j+1) b' FH q f hq al;refine⟨?_,this.2⟩;rw[b8 f (λi0 au=>Gl)];exact this.1) b1
   refine⟨_,G',d1,?_,d3.trans b5,λk g X=>(d4 k g (b9 k g X)).trans (b6 k g X),λf hb=>?_,λk g X=>?_,λl F=>?_,?_⟩
   ·rw[bT,dO,show(Mod.b i vs::ns)=[Mod.b i vs] ++ns from rfl,dO];exact d2
   ·grind
   ·rw[bT,dO,show(Mod.b i vs::ns)=[Mod.b i vs] ++ns from rfl,dO];exact d6 k g (b9 k g X)
   ·rw[bT,dO,show(Mod.b i vs::ns)=[Mod.b i vs] ++ns from rfl,dO];exact d7 l (J l F)
   ·grind [bT]
end
section
variable{T:Tab}{P:Program}{Φ:Fr}{σ:St}{a:Act}{w w':World}{G G':Gh}{K:VK}{o:Oper}{d:Nat}
def Mod.isB(i:Nat):Mod->Prop| .b j _=>j=i| .a _ _=>False
def Mod.isA(k:Nat):Mod->Prop| .b _ _=>False| .a j _=>j=k
theorem jJ(c:List Mod)(i:Nat):∀σ:St,(∀m∈c,¬m.isB i)->(σ.apps c).bx i=σ.bx i:=by
 induction c with
 |nil=>intro σ _;rfl
 |cons m r f=>
  intro σ h;have:σ.apps (m::r)=(m.app σ).apps r:=rfl;rw[this,f _ (λm g=>h m (SB _ g))];have:=h m (SK ..)
  cases m with
  |b j cs=>exact upd_ne _ _ (λe=>this e.symm)
  |a j en=>rfl
theorem lW(c:List Mod)(i:Nat):∀σ:St,(∀m∈c,¬m.isA i)->(σ.apps c).ar i=σ.ar i:=by
 induction c with
 |nil=>intro σ _;rfl
 |cons m r f=>
  intro σ h;have:σ.apps (m::r)=(m.app σ).apps r:=rfl;rw[this,f _ (λm g=>h m (SB _ g))];have:=h m (SK ..)
  cases m with
  |a j cs=>exact upd_ne _ _ (λe=>this e.symm)
  |b j en=>rfl
theorem aI2(f:List Mod)(i:Nat):∀σ c:St,((∃m∈f,m.isB i)\/σ.bx i=c.bx i)->(σ.apps f).bx i=(c.apps f).bx i:=by
 induction f with
 |nil=>intro σ c h;exact h.resolve_left (λ⟨m,hm,_⟩=>H8)
 |cons m r l=>
  intro σ c h;show((m.app σ).apps r).bx i=((m.app c).apps r).bx i;apply l;rcases h with⟨k,e,g⟩|h
  ·rcases QO.1 e with rfl|e
   ·right
    cases k with
    |b j cs=>cases g;show upd _ _ _ _=upd _ _ _ _;rw[upd_same,upd_same]
    |a j en=>exact g.elim
   ·exact .inl ⟨k,e,g⟩
  ·right
   cases m with
   |b j cs=>
    exact Q7
   |a j en=>exact h
theorem aI9(f:List Mod)(i:Nat):∀σ c:St,((∃m∈f,m.isA i)\/σ.ar i=c.ar i)->(σ.apps f).ar i=(c.apps f).ar i:=by
 induction f with
 |nil=>intro σ c h;exact h.resolve_left (λ⟨m,hm,_⟩=>H8)
 |cons m r l=>
  intro σ c h;show((m.app σ).apps r).ar i=((m.app c).apps r).ar i;apply l;rcases h with⟨k,e,g⟩|h
  ·rcases QO.1 e with rfl|e
   ·right
    cases k with
    |a j cs=>cases g;show upd _ _ _ _=upd _ _ _ _;rw[upd_same,upd_same]
    |b j en=>exact g.elim
   ·exact .inl ⟨k,e,g⟩
  ·right
   cases m with
   |a j cs=>
    exact Q7
   |b j en=>exact h
theorem aN6(e:List Mod)(i:Nat):∀σ:St,((∃m∈e,m.isB i)\/σ.bx i≠none)->(σ.apps e).bx i≠none:=by
 induction e with
 |nil=>intro σ h;exact h.resolve_left (λ⟨m,hm,_⟩=>H8)
 |cons m r k=>
  intro σ h;show((m.app σ).apps r).bx i≠none;apply k;rcases h with⟨g,c,f⟩|h
  ·rcases QO.1 c with rfl|c
   ·right
    cases g with
    |b j cs=>cases f;show upd _ _ _ _≠none;rw[upd_same];simp
    |a j en=>exact f.elim
   ·exact .inl ⟨g,c,f⟩
  ·right
   cases m with
   |b j cs=>
    show upd _ _ _ _≠none;grind [upd_same,upd_ne]
   |a j en=>exact h
theorem aO2(f:List Mod)(i:Nat):∀σ:St,((∃m∈f,m.isA i)\/σ.ar i≠none)->(σ.apps f).ar i≠none:=by
 induction f with
 |nil=>intro σ h;exact h.resolve_left (λ⟨m,hm,_⟩=>H8)
 |cons m r l=>
  intro σ h;show((m.app σ).apps r).ar i≠none;apply l;rcases h with⟨k,c,g⟩|h
  ·rcases QO.1 c with rfl|c
   ·right
    cases k with
    |a j cs=>cases g;show upd _ _ _ _≠none;rw[upd_same];simp
    |b j en=>exact g.elim
   ·exact .inl ⟨k,c,g⟩
  ·right
   cases m with
   |a j cs=>
    show upd _ _ _ _≠none;by_cases e:i=j
    ·subst e;rw[upd_same];simp
    ·rw[upd_ne _ _ e];exact h
   |b j en=>exact h
theorem dZ3{ar:Nat->Option AE}{is:List Nat}{x y:V}{k:Nat}(h:aP8 T ar is x y)(i:linear y=true)(c:k∈jQ x):∃en,ar k=some en:=by
 have key:wU T ar x y->∃en,ar k=some en:=by
  intro h
  cases y with
  |own e l=>
   cases x with
   |arr f g=>
    have b:k=f:=by simpa [jQ]using c
    subst b;have h':(match ar k with|some en=>en.gen=g/\en.kind= .own/\en.ty=e/\en.l=l|none=>False):=h
    exact P9
   |agg cs=>exact(h:False).elim
   |_=>simp[jQ]at c
  |ap e l=>
   cases x with
   |arr f g=>
    have b:k=f:=by simpa [jQ]using c
    subst b;have h':(match ar k with|some en=>en.gen=g/\(en.kind= .own\/en.kind= .ap)/\en.ty=e/\en.l=l|none=>False):=h
    exact P9
   |agg cs=>exact(h:False).elim
   |_=>simp[jQ]at c
  |_=>simp[linear]at i
 cases y with
 |own e l=>exact key h
 |ap e l=>exact key h
 |_=>simp[linear]at i
set_option maxHeartbeats 1600000 in
theorem fB8(inv:Inv T Φ σ a w G){f:FuncId}{Z:List Value}{xs:List V}(aj:Z.length=xs.length)(av:∀(i:Nat) v x,Z[i]? =some v->xs[i]? =some x->Rv w G v x/\x.ok σ.hasB σ.hasA){ys:List V}{is:List Nat}{bs:List (List V)}{r:V}{D:List (List V)}
 (S:xM T σ.ar is ((xs,ys)::eU σ.bx bs is))(ad:zA σ.bx ((xs,ys)::eU σ.bx bs is) is bs r=true)(H:aU2 T P f ys bs r D)
 (C:aX2 σ.bx σ.ar is (ownG ((xs,ys)::eU σ.bx bs is)) d r D λv l=>K v (appR (aV σ (mF ((xs,ys)::eU σ.bx bs is))) (appR (aX σ (ownG ((xs,ys)::eU σ.bx bs is))) l))):
 Calls P f Z.toArray w λe w'=>∃v',e= .returned v'/\∃v l G',K v l/\Inv T Φ (σ.apps l) a w' G'/\Rv w' G' v' v/\v.ok (σ.apps l).hasB (σ.apps l).hasA:=by
 refine(cS4 inv aj av rfl S ad H).mono ?_;have hlens:=H.2.1;clear H;obtain⟨a3,ah,bh,hil,a1,a8,bf,al⟩:=aL0 ad;have ae:D.length=bs.length:=DV
 have au:∀(γ:Nat) (g:List V×List V),((xs,ys)::eU σ.bx bs is)[γ]? =some g->g.1.length=g.2.length/\∀(q:Nat) x y,g.1[q]? =some x->g.2[q]? =some y->aP8 T σ.ar is x y:=λγ g hg=>aB1 (aJ8 S γ g hg)
 have gj:∀(j:Nat) (i:Nat) b,is[j]? =some i->bs[j]? =some b->((xs,ys)::eU σ.bx bs is)[j+1]? =some ((σ.bx i).getD [],b):=by
  intro j i b W R;rw[RG];exact(aR3 hil j _).2 ⟨i,b,W,R,rfl⟩
 generalize bk:(xs,ys)::eU σ.bx bs is=gs at*
 have as:∀k∈ownG gs,σ.ar k≠none:=by
  intro k C hn;obtain⟨γ,q,g,W,x,y,R,h3,h4,h5⟩:=aP0.1 C;obtain⟨en,hen⟩:=dZ3 ((au γ g W).2 q x y R h3) h4 h5;rw[hen]at hn;cases hn
 have N:∀(j i:Nat) cs (q k g:Nat),is[j]? =some i->σ.bx i=some cs->cs[q]? =some (.arr k g)->k∈ownG gs->PosG gs (j+1) q k:=by
  intro j i cs q k g hj hc hq C;have a6:j<bs.length:=EL;have hg:=gj j i bs[j] hj (QE a6)
  rw[hc]at hg;simp only[TY]at hg;have hlen:=(au _ _ hg).1;have ao:q<bs[j].length:=EF
  refine⟨_,hg,_,bs[j][q],hq,QE ao,?_,by simp[jQ]⟩
  cases hl:linear bs[j][q]with
  |true=>rfl
  |false=>
   exfalso;exact ah k C (aS8.2 ⟨j+1,_,hg,nP.2 ⟨q,_,_,hq,QE ao,hl,by simp[jQ]⟩⟩)
 rintro e w1 ⟨v,G1,G2,rfl,J,aw,aq,M,ag,ac,O,bj⟩;refine⟨v,rfl,?_⟩;generalize a2:ownG gs=ok at*;generalize bg:mF gs=X at*;generalize ab:σ.apps (aV σ X++aX σ ok++oM σ.bx is)=A at*
 have aa:∀i,A.bx i=if i∈is then some (((σ.bx i).getD []).map λ_=>V.bot)else σ.bx i:=λi=>by
  rw[<-ab,dO,bX5,aR5 σ _ (λm hm=>by
   rcases QJ.1 hm with hm|hm
   ·exact bF7 σ X m hm
   ·exact aS3 σ ok m hm)]
 have U:∀k en,k∈ok->σ.ar k=some en->∀L,A.hasA k L->L<=en.gen:=by
  rintro k en C hen L ⟨be,q1,q2⟩;rw[O,Q9 C,hen]at q1;cases q1;exact q2
 have ak:∀B,Lent bs.length B->∃(j i:Nat),B=100000+j/\is[j]? =some i/\renF is B=i:=by
  rintro B ⟨W,R⟩;have hj:B-100000<is.length:=Aa;refine⟨B-100000,is[B-100000],Aa,QE hj,?_⟩;show nthD is (B-100000)=_;unfold nthD;rw[uN,QE hj]
 have Q:∀B,Lent bs.length B->G2.β (renF is B)=G1.β B/\A.hasB (renF is B):=by
  intro B Y;obtain⟨j,i,rfl,R,h3⟩:=ak B Y;rw[h3];refine⟨ac j i R,?_⟩;unfold St.hasB;rw[aa,Q9 (QF R)];exact⟨_,rfl⟩
 have ai:is=[]->D=[] :=λh=>by
  have e1:D.length=0:=by rw[ae,<-hil,h];rfl
  exact Rn.1 e1
 have I:∀(rs E:List V),((∀(q k g:Nat),E[q]? =some (.arr k g)->False)\/(is=[]/\E.length=1))->∀(Z:List Value),Z.length=rs.length->rs.length<1000->(∀(i:Nat) u y,Z[i]? =some u->rs[i]? =some y->RbB T w1 G1 bs.length i u y)->∀(K':List V->List Mod->Prop),
  (oJ σ.ar is ok rs E d λvs l=>aB3 σ.bx σ.ar is ok D is (d+1000000) λns=>K' vs (appR l ns))->
  ∃vs l G',K' vs l/\Inv T Φ (A.apps l) a w1 G'/\vs.length=rs.length/\(∀(i:Nat) u v,Z[i]? =some u->vs[i]? =some v->Rv w1 G' u v/\v.ok (A.apps l).hasB (A.apps l).hasA)/\∀i∈is,∃cs,Mod.b i cs∈l:=by
  intro rs E s Z aj bi hrb K' ax
  obtain⟨vs,l,G3,b1,b2,b3,b4,b5,b6,b7,b8,b9,a0,an⟩:=aU0 (Gx:=G1) (σ0:=σ) (is:=is) (ok:=ok) (n:=bs.length) rs E d 0 A G2 Z _ aq aj
   (λq _ hn=>by rw[O,hn];simp)
   (λq k g en hq C hen L hh=>U k en C hen L hh) (λq q' k g L hq F _=>by
    rcases s with s|⟨_,s⟩
    ·exact(s q k g hq).elim
    ·have W:=(QD.1 hq).1
     have R:=(QD.1 F).1;omega)
   (λi u y hu hy=>Gt) ag Q (λi b _ hb=>M _ b hb) ax
  obtain⟨ns,G',d1,d2,d3,d4,d5,d6,d7,d8⟩:=cI1 (Gx:=G1) (σ0:=σ) (is:=is) (ok:=ok) (n:=bs.length) as D is (d+1000000) 100000 (A.apps l) G3 _ b2
   (λj b i hb hi=>by
    obtain⟨cs,bb⟩:=a1 i (QF hi);obtain⟨p1,c,t,p2,p3,p4⟩:=aw j b hb;have hj:j<bs.length:=by rw[<-ae];exact(QD.1 hb).1
    refine⟨cs,_,c,t,bb,by rw[a0,aa,Q9 (QF hi)],by rw[b5,ac j i hi];exact p2,p3,?_,λq v y hv hy=>?_⟩
    ·have e1:(D.map List.length)[j]? =some b.length:=by rw[Rk,hb];rfl
     rw[hlens]at e1;grind
    ·have:=p4 q v y hv hy
     rw[ae]at this;rwa [show 100000*(j+1)+q=100000+100000*j+q from Aa]at this)
   (λj b hb q hq hn=>by
    rcases s with s|⟨s,_⟩
    ·rw[an _ (λq' F _ e=>Aa) (λq' L F=>(s q' _ L F).elim),O,hn]
     simp
    ·rw[ai s]at hb;cases hb)
   (λj i cs q k g en hj hc hq C hen L hh=>by
    obtain⟨a7,W,R⟩:=hh;rcases s with s|⟨s,_⟩
    ·rw[an k (λq' _ hn e=>ED) (λq' L F=>(s q' _ L F).elim)]at W
     exact U k en C hen L ⟨a7,W,R⟩
    ·rw[s]at hj;cases hj)
   (λj j' i B cs a4 q q' k g L hj a9 hc bd hq F C=>by
    have:=aA3 (by rw[a2];exact a3) (N j i cs q k g hj hc hq C) (N j' B a4 q' k L a9 bd F C)
    omega)
   ⟨λb hb=>(b7 b (by rw[ag.fz b hb];simp)).trans (ag.fz b hb),λ_ _=>rfl⟩
   (λB Y=>⟨by rw[b5];exact(Q B Y).1,by obtain⟨x,hx⟩:=(Q B Y).2;exact⟨x,by rw[a0];exact hx⟩⟩)
   (λj b hb q ay hq hO=>by
    have:=M _ ay hO;refine⟨?_,this.2⟩;rw[b8 ay (λi0 bl=>Gl)];exact this.1) b1
  refine⟨vs,appR l ns,G',d1,by rw[bT,dO];exact d2,b3,λi u v hu hv=>?_,λi hi=>?_⟩
  ·obtain⟨q1,q2⟩:=b4 i u v hu hv
   rw[bT,dO];have bc:Keep w1 w1 G3 G':=⟨λb hb=>(d5 b AP).trans hb,λ_ _=>rfl⟩;exact⟨q1.keep bc q2 (λi _=>by rw[d3]) d4,V.ok.imp d7 d6 _ q2⟩
  ·grind [bT]
 have z:∀l:List Mod,(∀i∈is,∃cs,Mod.b i cs∈l)->σ.apps (appR (aV σ X) (appR (aX σ ok) l))=A.apps l:=by
  intro l ba;have e1:σ.apps (appR (aV σ X) (appR (aX σ ok) l))=(σ.apps (aV σ X++aX σ ok)).apps l:=by rw[bT,bT,<-Si];exact dO _ _ _
  have e2:A=(σ.apps (aV σ X++aX σ ok)).apps (oM σ.bx is):=ab.symm.trans (dO _ _ _);rw[e1,e2];generalize σ.apps (aV σ X++aX σ ok)=τ;have W:(τ.apps l).env=((τ.apps (oM σ.bx is)).apps l).env:=by rw[vM,vM,vM]
  have R:(τ.apps l).bx=((τ.apps (oM σ.bx is)).apps l).bx:=by
   funext i;refine aI2 l i _ _ ?_;by_cases hi:i∈is
   ·obtain⟨cs,h⟩:=ba i hi
    exact .inl ⟨_,h,rfl⟩
   ·rw[bX5,Q5 hi];exact .inr rfl
  have h3:(τ.apps l).ar=((τ.apps (oM σ.bx is)).apps l).ar:=by
   funext k;grind [aI9,dI5]
  generalize τ.apps l=s1 at*;generalize (τ.apps (oM σ.bx is)).apps l=s2 at*;cases s1;cases s2<;>grind
 unfold aX2 at C;split at C
 ·rename_i rs
  obtain⟨vs',e1,e2,e3⟩:∃vs:Array Value,v= .tuple vs/\vs.size=rs.length/\∀(j:Nat) u y,vs[j]? =some u->rs[j]? =some y->RbB T w1 G1 bs.length j u y:=J;rw[dU]at C
  obtain⟨vs,l,G',b1,b2,b3,b4,b5⟩:=I rs (rs.map λ_=> .bot) (.inl (λq k g hq=>by
   rw[Rk]at hq
   cases hy:rs[q]? with
   |none=>rw[hy]at hq;cases hq
   |some y=>rw[hy]at hq;simp at hq)) vs'.toList GL (al rs rfl) (λi u y hu hy=>e3 i u y Bj hy) (λvs l=>K (.tup vs) (appR (aV σ X) (appR (aX σ ok) l))) C
  refine⟨.tup vs,_,G',b1,by rw[z l b5];exact b2,?_,?_⟩
  ·exact LY
  ·rw[z l b5]
   simp only[V.ok];refine aH.2 λx hx=>?_;obtain⟨i,hi⟩:=QY hx;have az:i<vs'.toList.length:=BA
   exact(b4 i _ x (QE az) hi).2
 ·rename_i a5
  have af:RbB T w1 G1 bs.length 0 v r:=by
   unfold RrB at J;split at J
   ·exact(a5 _ rfl).elim
   ·exact J
  have am:(∀(q k g:Nat),[dB5 is ok][q]? =some (.arr k g)->False)\/(is=[]/\ [dB5 is ok].length=1):=by
   cases is with
   |nil=>exact .inr ⟨rfl,rfl⟩
   |cons i ir=>
    refine .inl λq k g hq=>?_
    cases q with
    |zero=>cases hq
    |succ q=>simp at hq
  obtain⟨vs,l,G',b1,b2,b3,b4,b5⟩:=I [r] [dB5 is ok] am [v] rfl Ae (λi u y hu hy=>by
   cases i with
   |zero=>simp at hu hy;subst hu;subst hy;exact af
   |succ i=>simp at hu) (λvs l=>match vs with|v::_=>K v (appR (aV σ X) (appR (aX σ ok) l))| [] =>False) (by
   refine cQ2 (λvs l h=>?_) C
   cases vs with
   |nil=>exact(h:False).elim
   |cons v r=>exact h)
  match vs,b3 with
  | [x],_=>
    obtain⟨q1,q2⟩:=b4 0 v x rfl rfl;exact⟨x,_,G',b1,by rw[z l b5];exact b2,q1,by rw[z l b5];exact q2⟩
theorem cP8(inv:Inv T Φ σ a w G){p:Md}{f:FuncId}{z:List Value}{xs:List V}(m:z.length=xs.length)(b:∀(i:Nat) v x,z[i]? =some v->xs[i]? =some x->Rv w G v x/\x.ok σ.hasB σ.hasA)(h:kY T P p σ d f xs K):
 callable P f=true/\Calls P f z.toArray w λe w'=>∃v',e= .returned v'/\∃v t G',K v t/\Inv T Φ (σ.apps t) a w' G'/\Rv w' G' v' v/\v.ok (σ.apps t).hasB (σ.apps t).hasA:=by
 rcases h.out with⟨ys,r,lend,s,n,c,q⟩|⟨_,ys,r,j,k,g,e,l,D,s,n,c,q,u,B,A⟩|⟨ys,is,bs,r,C,_,s,n,c,q⟩|⟨_,ys,y,s,n,c,q,u⟩
 ·exact⟨c.1,eJ8 inv m b s n c q⟩
 ·exact⟨c.1,eO2 inv m b s n c q u B A⟩
 ·exact⟨c.1,fB8 inv m b s n c q⟩
 ·exact⟨c.1,call_new inv m b s n c q u⟩
theorem bF2(inv:Inv T Φ σ a w G){b:Md}{f:FuncId}(c:List Operand)(h:kY T P b σ d f (c.map σ.ev) K):
 callable P f=true/\Calls P f (c.map a.eval).toArray w λe w'=>∃v',e= .returned v'/\∃v g G',K v g/\Inv T Φ (σ.apps g) a w' G'/\Rv w' G' v' v/\v.ok (σ.apps g).hasB (σ.apps g).hasA:=by
 refine cP8 inv Ae (λi v x hv j=>?_) h
 have hi:i<c.length:=by
  grind
 have k:v=a.eval c[i] :=by simpa [hi]using hv.symm
 have l:x=σ.ev c[i] :=by simpa [hi]using j.symm
 rw[k,l];exact inv.ev c[i]
end
theorem dE7(i:Nat)(cs xs:List V):(V.agg xs).frz i cs= .agg (xs.map (V.frz i cs)):=by
 have h:∀l:List V,(V.agg l).frz i cs= .agg (l.map (V.frz i cs)):=by
  intro l
  induction l with
  |nil=>rfl
  |cons x r c=>
   have b:(V.agg (x::r)).frz i cs=(match(V.agg r).frz i cs with| .agg l=> .agg (x.frz i cs::l)|y=>y):=rfl
   rw[b,c];rfl
 exact h xs
theorem dB9(i:Nat)(cs xs:List V):(V.tup xs).frz i cs= .tup (xs.map (V.frz i cs)):=by
 have h:∀l:List V,(V.tup l).frz i cs= .tup (l.map (V.frz i cs)):=by
  intro l
  induction l with
  |nil=>rfl
  |cons x r c=>
   have b:(V.tup (x::r)).frz i cs=(match(V.tup r).frz i cs with| .tup l=> .tup (x.frz i cs::l)|y=>y):=rfl
   rw[b,c];rfl
 exact h xs
theorem eK0(i:Nat)(cs:List V)(g:FuncId)(xs:List V):(V.fn g xs).frz i cs= .fn g (xs.map (V.frz i cs)):=by
 have h:∀l:List V,(V.fn g l).frz i cs= .fn g (l.map (V.frz i cs)):=by
  intro l
  induction l with
  |nil=>rfl
  |cons x r c=>
   have b:(V.fn g (x::r)).frz i cs=(match(V.fn g r).frz i cs with| .fn g l=> .fn g (x.frz i cs::l)|y=>y):=rfl
   rw[b,c];rfl
 exact h xs
theorem zG(i off:Nat)(cs:List V):(V.box i off).frz i cs= .fp (cs.drop off):=by
 show cond (Nat.beq i i) (V.fp (jX cs off)) (.box i off)=_;rw[Nat.beq_refl,SG,lQ]
theorem bI5{i j off:Nat}(cs:List V)(h:j≠i):(V.box j off).frz i cs= .box j off:=by
 show cond (Nat.beq j i) (V.fp (jX cs off)) (.box j off)=_;have:Nat.beq j i=false:=FO;rw[this,SA]
section
variable{T:Tab}{P:Program}{Φ:Fr}{σ:St}{a:Act}{w:World}{G:Gh}
mutual
theorem V.ok.frz{p p':Nat->Prop}{q:Nat->Nat->Prop}{i:Nat}{cs:List V}(c:∀j,p j->j≠i->p' j)(b:bM cs):(x:V)->x.ok p q->(x.frz i cs).ok p' q
 | .bot,_=>He
 | .lit u,_=>Gu
 | .agg l,h=>by
   rw[dE7];simp only[V.ok]at h⊢;exact V.okL.frz c b l h
 | .tup l,h=>by
   rw[dB9];simp only[V.ok]at h⊢;exact V.okL.frz c b l h
 | .sl l,h=>EG
 | .cap l,h=>E8
 | .own e l,h=>Em
 | .ap e l,h=>Ew
 | .box j off,h=>by
   by_cases e:j=i
   ·grind [zG,aH,Rj,V.ok]
   ·rw[bI5 cs e]
    simp only[V.ok]at h⊢;exact c j h e
 | .arr k g,h=>En
 | .fp l,h=>EH
 | .ae k g z i' o,h=>DN
 | .fn g l,h=>by
   rw[eK0];simp only[V.ok]at h⊢;exact V.okL.frz c b l h
theorem V.okL.frz{p p':Nat->Prop}{q:Nat->Nat->Prop}{i:Nat}{cs:List V}(c:∀j,p j->j≠i->p' j)(b:bM cs):(l:List V)->V.okL p q l->V.okL p' q (l.map (V.frz i cs))
 | [],_=>by simp only[RY,V.okL]
 |x::r,h=>by
  simp only[QW,V.okL]at h⊢;exact⟨V.ok.frz c b x h.1,V.okL.frz c b r h.2⟩
end
theorem Rv.frz{i:Nat}{cs:List V}{c:Array Value}{t:TypeId}(J:w.heap[G.β i]? =some (.cells c t (0,0)))(hc:RvL w G c.toList cs)(D:bM cs)(Q:G.O (G.β i)= .bx i){v:Value}{x:V}(h:Rv w G v x):
 ∀ {p:Nat->Prop} {q:Nat->Nat->Prop},x.ok p q->Rv w {G with O:=upd G.O (G.β i) .fz} v (x.frz i cs):=by
 have f:Keep w w G {G with O:=upd G.O (G.β i) .fz}:=⟨λb K=>by
  show upd G.O _ _ b=_;by_cases e:b=G.β i
  ·subst e;rw[upd_same]
  ·rw[upd_ne _ _ e];exact K,λ_ _=>rfl⟩
 induction h with
 |bot v=>intros;exact .bot v
 |lit u h=>intros;exact .lit u h
 |agg vs xs hl N _ ih=>
  intro p q hok;simp only[V.ok]at hok;rw[dE7];refine .agg vs _ BD N λj c x hc hx=>?_;exact Px
 |tup vs xs hl _ ih=>
  intro p q hok;simp only[V.ok]at hok;rw[dB9];refine .tup vs _ BD λj c x hc hx=>?_;exact Px
 |slN=>intros;exact .slN
 |slS a c l sz cc A r m s C B _=>
  intro p q hok;exact(Rv.slS a c l sz cc A r m s C B).aW f Ba
 |capN=>intros;exact .capN
 |capS a l sz cc r m s C B _=>
  intro p q hok;exact(Rv.capS a l sz cc r m s C B).aW f Ba
 |box j off=>
  intro p q hok;by_cases e:j=i
  ·subst e
   rw[zG];have L:=(RvL.here (n:=c.toList.length) J (by rw[Tn];exact hc)).out
   obtain⟨cc,H,E⟩:=L;refine .fp ⟨G.β j,off,none⟩ _ (λk=>cc (off+k)) (λ_=>by show upd G.O _ _ (G.β j)=_;rw[upd_same]) (λk y hy=>?_) (λk y hy=>?_)
   ·rw[RI]at hy
    have:=H (off+k) y hy;simp_all [rY,SL]
   ·rw[RI]at hy
    exact(E _ y hy).aW f (aH.1 D y (QF hy))
  ·rw[bI5 cs e]
   exact Rv.box (G:={G with O:=upd G.O (G.β i) .fz}) j off
 |arr k g h=>
  intro p q hok;exact Rv.arr (G:={G with O:=upd G.O (G.β i) .fz}) k g h
 |fp a l cc A r m _=>
  intro p q hok;exact(Rv.fp a l cc A r m).aW f Ba
 |ae k g sz j off a n c h=>
  intro p q hok;exact Rv.ae (G:={G with O:=upd G.O (G.β i) .fz}) k g sz j off a n c h
 |fn g F d hl _ ih=>
  intro p q hok;simp only[V.ok]at hok;rw[eK0];refine .fn g F _ BD λj c x hc hx=>?_;rw[Rk]at hx
  cases hy:d[j]? with
  |none=>rw[hy]at hx;cases hx
  |some y=>exact J4
 |fb g M d hl _ ih=>
  intro p q hok;simp only[V.ok,V.okL]at hok;rw[eK0];refine .fb g M (d.map (V.frz i cs)) BD λj c x hc hx=>?_;rw[Rk]at hx
  cases hy:d[j]? with
  |none=>rw[hy]at hx;cases hx
  |some y=>
   rw[hy]at hx;simp only[Sr,RS]at hx;subst hx;exact ih j c y hc hy (aH.1 hok.2 y (QF hy))
 |mp b z o g I es val A r m s C B _=>
  intro p q hok;exact(Rv.mp b z o g I es val A r m s C B).aW f Fh
theorem bP0{i:Nat}{cs:List V}{bx:Nat->Option (List V)}{j:Nat}{l:List V}(h:frzB i cs bx j=some l):j≠i/\∃c,bx j=some c/\l=c.map (V.frz i cs):=by
 unfold frzB at h
 cases b:Nat.beq j i with
 |true=>rw[b]at h;cases h
 |false=>
  rw[b,SA]at h;grind [Nat.beq_refl,dU]
theorem dE5{i:Nat}{cs:List V}{bx:Nat->Option (List V)}{j:Nat}{b:List V}(c:j≠i)(h:bx j=some b):frzB i cs bx j=some (b.map (V.frz i cs)):=by
 unfold frzB;have:Nat.beq j i=false:=by rw[<-TF,SX];exact c
 rw[this,SA,h];simp only[dU]
theorem Inv.bV0(inv:Inv T Φ σ a w G){i:Nat}{cs:List V}(hi:σ.bx i=some cs)(H:i<100000)(f:bM cs):
 Inv T Φ ⟨λs=>(σ.env s).frz i cs,frzB i cs σ.bx,σ.ar⟩ a w {G with O:=upd G.O (G.β i) .fz}/\Keep w w G {G with O:=upd G.O (G.β i) .fz}:=by
 obtain⟨c,t,E,B,p⟩:=inv.box i cs hi
 have m:Keep w w G {G with O:=upd G.O (G.β i) .fz}:=⟨λb d=>by
  show upd G.O _ _ b=_;by_cases e:b=G.β i
  ·subst e;rw[upd_same]
  ·rw[upd_ne _ _ e];exact d,λ_ _=>rfl⟩
 have D:∀j,σ.hasB j->j≠i->St.hasB ⟨λs=>(σ.env s).frz i cs,frzB i cs σ.bx,σ.ar⟩ j:=λj ⟨l,q⟩ A=>⟨_,dE5 A q⟩
 have g:∀b,upd G.O (G.β i) Tag.fz b=G.O b\/(b=G.β i/\upd G.O (G.β i) Tag.fz b= .fz):=λb=>by
  grind [upd_same,upd_ne]
 refine⟨{nd:=inv.nd,kp:=inv.kp,sz:=inv.sz,env:= ?_,wfE:= ?_,box:= ?_,wfB:= ?_,arr:= ?_,wfA:=inv.wfA,tag:= ?_,mineB:= ?_,mineA:= ?_,fzm:= ?_,F0:= ?_,lay:=inv.lay,frame:=inv.frame,size:=inv.size,os:=inv.os,tape:=inv.tape,output:=inv.output,args:=inv.args,argb:=λj b h=>⟨(inv.argb j b h).1,(inv.argb j b h).2.1,_,dE5 (λe=>by have:=(inv.argb j b h).2.1.1;omega) (inv.argb j b h).2.2.choose_spec⟩},m⟩
 ·intro s;exact(inv.env s).frz E B f p (inv.wfE s)
 ·intro s;exact V.ok.frz D f _ (inv.wfE s)
 ·intro j l q
  obtain⟨A,o,u,rfl⟩:=bP0 q;obtain⟨F,J,I,z,K⟩:=inv.box j o u;refine⟨F,J,I,⟨by simpa using z.len,z.one,λk v x hv n=>?_⟩,?_⟩
  ·rw[Rk]at n
   cases r:o[k]? with
   |none=>rw[r]at n;cases n
   |some y=>
    rw[r]at n;simp only[Sr,RS]at n;subst n;exact(z.rel k v y hv r).frz E B f p (aH.1 (inv.wfB j o u) y (QF r))
  ·grind
 ·intro j l q
  obtain⟨A,o,u,rfl⟩:=bP0 q;exact V.okL.frz D f o (inv.wfB j o u)
 ·intro k en C
  exact(inv.arr k en C).keep m (inv.wfA k en C) rfl (λb d=>⟨by
   show upd G.O _ _ b=_;rw[upd_ne _ _ (λe=>by rw[e,p]at d;cases d)];exact d,rfl⟩)
 ·intro b d
  rcases g b with h|⟨h,_⟩
  ·exact inv.tag b (by rw[<-h];exact d)
  ·subst h;exact inv.tag _ (by rw[p];simp)
 ·intro b j d
  rcases g b with h|⟨_,h⟩
  ·exact inv.mineB b j (h▸d)
  ·simp_all
 ·intro b k d
  rcases g b with h|⟨_,h⟩
  ·exact inv.mineA b k (h▸d)
  ·simp_all
 ·intro b d
  rcases g b with h|⟨h,_⟩
  ·exact inv.fzm b (h▸d)
  ·subst h;exact .inr (inv.mineB _ i p)
 ·intro b d
  exact m.fz b (inv.F0 b d)
end
section
variable{T:Tab}{P:Program}{Φ:Fr}{σ:St}{a:Act}{w w':World}{G G':Gh}{K:VK}{o:Oper}{d:Nat}
theorem Inv.put'(c:List Mod)(inv:Inv T Φ (σ.apps c) a w G){b:Option Nat}(f:∀d,b=some d->Φ.wr d){v':Value}{v:V}(hv:Rv w G v' v)(e:v.ok (σ.apps c).hasB (σ.apps c).hasA):Inv T Φ (σ.put b v c) (a.put b v') w G:=by
 cases b with
 |none=>exact inv
 |some d=>exact inv.bA3 (f d rfl) hv e
theorem dX2{f:FuncId}{e:List Operand}{g:Array TypeId}(k:o.op= .call ⟨.value (.func f),⟨e⟩,g⟩)(b:callable P f=true):(execOp a.eval o).run P w= .ok (.enter f (e.map a.eval).toArray) w:=by
 unfold callable at b;split at b
 ·rename_i j c
  simp only[QN,bne_iff_ne]at b;have i:j.body≠none:=by intro h;rw[h]at b;simp at b
  simp[execOp,k,resolve,Act.eval,Deferred.ofValue,invoke,callFunc,c,i,b.2]
 ·cases b
theorem dO6{t g:Nat}{i:List Operand}{l:Array TypeId}{f c:Array Value}(p:o.op= .call ⟨.value (.tmp t),⟨i⟩,l⟩)(q:a.tmps.getD t undef= .func (.func g) f c)(b:callable P g=true):(execOp a.eval o).run P w= .ok (.enter g (f.toList++i.map a.eval++c.toList).toArray) w:=by
 unfold callable at b;split at b
 ·rename_i m j
  simp only[QN,bne_iff_ne]at b;have n:m.body≠none:=by intro h;rw[h]at b;simp at b
  have k:a.eval (.tmp t)= .func (.func g) f c:=q;have e:(f.toList++i.map a.eval++c.toList).toArray=f++(i.map a.eval).toArray++c:=by apply Array.ext';simp
  rw[e];simp[execOp,p,resolve,k,Deferred.ofValue,invoke,callFunc,j,n,b.2]
 ·cases b
theorem argsV_mem{b xs:List V}{x:V}(h:x∈argsV b xs):x∈b\/x∈xs:=by
 unfold argsV at h;grind [bT,SB]
theorem aX3(inv:Inv T Φ σ a w G){f:Md}{t g:Nat}{c:List Operand}{b:List V}(s:σ.env t= .fn g b)(r:isFnC b=true)(h:kY T P f σ d g (argsV b (c.map σ.ev)) K):
 ∃n m:Array Value,a.tmps.getD t undef= .func (.func g) n m/\callable P g=true/\Calls P g (n.toList++c.map a.eval++m.toList).toArray w λe w'=>∃v',e= .returned v'/\∃v l G',K v l/\Inv T Φ (σ.apps l) a w' G'/\Rv w' G' v' v/\v.ok (σ.apps l).hasB (σ.apps l).hasA:=by
 have z:=inv.env t;have j:=inv.wfE t
 rw[s]at z j
 have u:∀(i:Nat) v x,(c.map a.eval)[i]? =some v->(c.map σ.ev)[i]? =some x->Rv w G v x/\x.ok σ.hasB σ.hasA:=by
  intro i v x hv k;have hi:i<c.length:=by simpa using(QD.1 hv).1
  have E:v=a.eval c[i] :=by simpa [hi]using hv.symm
  have B:x=σ.ev c[i] :=by simpa [hi]using k.symm
  rw[E,B];exact inv.ev c[i]
 obtain⟨n,m,C,A,D⟩:=z.fn_args r (c.map a.eval) (c.map σ.ev) Ae (λi v x hv k=>(u i v x hv k).1);simp only[V.ok]at j;refine⟨n,m,C,cP8 inv A (λi v x hv k=>⟨D i v x hv k,?_⟩) h⟩;rcases argsV_mem (QF k)with q|q
 ·exact aH.1 j x q
 ·obtain⟨y,_,rfl⟩:=QZ.1 q
  exact(inv.ev y).2
theorem eM3{t e:TypeId}(f:P.underlying t=some (.slice e))(b:Option Addr)(n c:Nat):(binOp .eql t (.slice b n c) (.slice none 0 0)).run P w= .ok (.bool b.isNone) w:=by
 simp only[binOp];simp[run_equal_slice_nil w t e b n c f]
theorem eG0(C:bP T P)(inv:Inv T Φ σ a w G)(o:Oper)(hd:∀d,o.dst=some d->Φ.wr d){u:Md}(h:bW T P u σ d o.op K){Q:Exit->Act->World->Prop}:
 o.wp P a w (λz w'=>∃v ms G',K v ms/\Inv T Φ (σ.put o.dst v ms) z w' G') Q:=by
 unfold bW at h;split at h
 ·rename_i f N ts m
  rw[bC,dU]at h;obtain⟨E,b⟩:=bF2 inv N h;unfold Oper.wp;rw[dX2 m E,Oper.upon_enter];refine b.mono ?_;rintro e B ⟨v',rfl,v,ms,G',hk,inv',hv,hvo⟩;exact Pe
 ·rename_i t N ts m
  split at h
  ·rename_i g S F
   obtain⟨J,h⟩:=aT h;rw[bC,dU]at h;obtain⟨fs,lb,e1,E,b⟩:=aX3 inv F J h;unfold Oper.wp;rw[dO6 m e1 E,Oper.upon_enter];refine b.mono ?_;rintro e B ⟨v',rfl,v,ms,G',hk,inv',hv,hvo⟩;exact⟨v,ms,G',hk,Inv.put' ms inv' hd hv hvo⟩
  ·exact h.elim
 ·rename_i t x lo hi mx m
  have k:∀ {L:VK} {ns:List Mod} {U:Gh},Inv T Φ (σ.apps ns) a w U->opVC T (σ.apps ns) d o.op L->(∀v ms,L v ms->K v (ns++ms))->o.wp P a w (λz w'=>∃v ms G',K v ms/\Inv T Φ (σ.put o.dst v ms) z w' G') Q:=by
   intro L ns U i H hk1;obtain⟨v',B,v,ms,G',j,hk,inv',hv,hvo⟩:=xQ C i o H;rw[<-dO]at inv' hvo;unfold Oper.wp;rcases j with j|⟨j,rfl⟩
   ·rw[j,TN]
    exact Qj
   ·rw[j,Oper.upon_skip]
    exact Qj
  rw[<-m]at h;split at h
  ·split at h
   ·rename_i gen ty l s
    obtain⟨O',i,_,_⟩:=inv.freeze s (.inl rfl);exact k i h (λ_ _ hk=>hk)
   ·rename_i gen ty l s
    obtain⟨O',i,_,_⟩:=inv.freeze s (.inr rfl);exact k i h (λ_ _ hk=>hk)
   ·exact k (ns:=[]) inv h (λ_ _ hk=>hk)
  ·exact k (ns:=[]) inv h (λ_ _ hk=>hk)
 ·rename_i X t x c R m
  split at h
  ·rename_i l hx
   obtain⟨Y,ty,kd,I,y⟩:=h;subst Y
   have A:∃e,P.underlying t=some (.slice e):=by
    obtain⟨W,H,O,_⟩:=(C t ty).und;rw[kd]at O;cases W<;>simp[kdOf]at O;exact⟨_,H⟩
   obtain⟨e,A⟩:=A;have r:=(inv.ev (.tmp x)).1;have M:σ.ev (.tmp x)= .sl l:=hx
   rw[M]at r
   have k:∀(q:Option Addr) (n D:Nat),a.eval (.tmp x)= .slice q n D->(l≠ []->q.isNone=false)->o.wp P a w (λz w'=>∃v ms G',K v ms/\Inv T Φ (σ.put o.dst v ms) z w' G') Q:=by
    intro q n D V Z;have hk:=y q.isNone Z;unfold Oper.wp;rcases I with rfl|rfl
    ·rw[yY (.tmp x) (.const (.slice none 0 0)) .eql t R m _ _ (.bool q.isNone) V rfl (qZ _ _ _ _ _ _ Ae Ae) (eM3 A q n D),TN]
     exact Qy
    ·rw[yY (.tmp x) (.const (.slice none 0 0)) .neq t R m _ _ (.bool (!q.isNone)) V rfl (qZ _ _ _ _ _ _ Ae Ae) (run_neq_slice_nil w t e q n D A),TN]
     exact Qy
   generalize aa:a.eval (.tmp x)=xv at r;cases r<;>simp_all
  ·rw[<-m]at h
   obtain⟨v',B,v,ms,G',j,hk,inv',hv,hvo⟩:=xQ C inv o h;unfold Oper.wp;rcases j with j|⟨j,rfl⟩
   ·rw[j,TN]
    exact⟨v,ms,G',hk,Inv.put' ms inv' hd hv hvo⟩
   ·rw[j,Oper.upon_skip]
    exact⟨v,ms,G',hk,Inv.put' ms inv' hd hv hvo⟩
 ·obtain⟨v',B,v,ms,G',j,hk,inv',hv,hvo⟩:=xQ C inv o h
  unfold Oper.wp;rcases j with j|⟨j,rfl⟩
  ·rw[j,TN]
   exact Pe
  ·rw[j,Oper.upon_skip]
   exact Pe
theorem bD0{b:Option Nat}{f:FuncId}{args:Array Value}{w:World}{R:Ending->World->Prop}:CallsIn (FW b) 0 P f args w R↔Calls P f args w R:=callsIn_wide
theorem dR1{b:Option Nat}{row:String}{args:Array Value}{w:World}{R:Value->World->Prop}(h:Rows P row args w R):RowsIn (FW b) 0 P row args w R:=λc cs _=>by
 obtain⟨v,w',r,s⟩:=h c cs;exact⟨v,w',r,(stepsIn_wide (P:=P)).2 s⟩
theorem dD1{b:Option Nat}{o:Oper}(e:∀c,o.op≠ .defer c){next:Act->World->Prop}{Q:Exit->Act->World->Prop}(h:o.wp P a w next Q):o.wpIn (FW b) 0 P a w next Q:=by
 unfold Oper.wp at h;refine⟨λ_ _=>trivial,?_⟩;rw[Oper.semAt_eq _ _ _ e];generalize (execOp a.eval o).run P w=r at h⊢
 cases r with
 |ok x w'=>
  cases x<;>simp only[Oper.upon,Oper.uponIn]at h⊢
  case value=>exact h
  case skip=>exact h
  case defer=>exact h
  case enter=>exact⟨λhh=>EP,bD0.2 h⟩
  case row=>exact⟨λhh=>EP,dR1 h⟩
 |halt x w'=>cases x<;>simp only[Oper.upon,Oper.uponIn]at h⊢<;>exact h
theorem eS3{b:Md}{e:Op}(h:bW T P b σ d e K):∀c,e≠ .defer c:=by
 rintro c rfl;exact(h:False).elim
theorem dF4(g:bP T P)(inv:Inv T Φ σ a w G)(o:Oper)(f:∀d,o.dst=some d->Φ.wr d){b:Md}(h:bW T P b σ d o.op K){Q:Exit->Act->World->Prop}(e:Option Nat):
 o.wpIn (FW e) 0 P a w (λi w'=>∃v c G',K v c/\Inv T Φ (σ.put o.dst v c) i w' G') Q:=dD1 (eS3 h) (eG0 g inv o f h)
theorem cM8(b:List Mod):∀(σ:St) (K:(Nat->V)->(Nat->Option (List V))->(Nat->Option AE)->Prop),dZ7 b σ.env σ.bx σ.ar K=K (σ.apps b).env (σ.apps b).bx (σ.apps b).ar:=by
 induction b with
 |nil=>intro σ K;rfl
 |cons m r c=>
  intro σ K;have e:σ.apps (m::r)=(m.app σ).apps r:=rfl;rw[e,<-c (m.app σ) K];cases m<;>rfl
def Step(T:Tab)(P:Program)(light:Md)(n:Nat)(ops:List Oper)(o:Oper)(σ:St)(K:St->Prop):Prop:=
 match o.guard with
 |none=>((∀d,o.dst=some d->d<n)/\bW T P light σ (o.dst.getD n) o.op λv ms=>K (σ.put o.dst v ms))\/
  (light= .free/\∃d g c cs,o.dst=some d/\d<n/\o.op= .makeFunc (.func g) ⟨[]⟩ ⟨c::cs⟩/\zX (T.ref g) σ.ar (c::cs) σ.env σ.bx λenv bx caps=>K ⟨upd env d (.fn g caps),bx,σ.ar⟩)\/
  (light= .free/\∃σ1,Le T σ σ1/\(∀d,o.dst=some d->d<n)/\bW T P light σ1 (o.dst.getD n) o.op λv ms=>K (σ1.put o.dst v ms))
 |some (j,want)=>∃s,tV ops j=some s/\(∀d,o.dst=some d->d<n)/\
  ((∃b,σ.env s= .lit (.bool b)/\if b=want then bW T P light σ (o.dst.getD n) o.op λv ms=>K (σ.put o.dst v ms)else K (σ.put o.dst (.tup []) []))\/(∃cs,σ.env s= .tup cs/\K (σ.put o.dst (.tup []) [])))
theorem qK{c:Md}{n:Nat}{b:Option Nat}{f:Op}{i:OpsK}{K:St->Prop}(h:aV2 T P c n b f i σ.env σ.bx σ.ar K):
 (∀d,b=some d->d<n)/\bW T P c σ (b.getD n) f λv e=>i (σ.put b v e).env (σ.put b v e).bx (σ.put b v e).ar K:=by
 unfold aV2 at h
 cases b with
 |none=>
  refine⟨(λ_ h=>Ah),?_⟩;have g:=h
  simp only[cM8 _ σ]at g;exact g
 |some d=>
  obtain⟨k,j⟩:=aT h;refine⟨(λl h=>by cases h;exact blt k),?_⟩
  simp only[cM8 _ σ]at j;exact j
theorem aD8{n:Nat}{b:Option Nat}{c:OpsK}{K:St->Prop}(h:bF6 n b c σ.env σ.bx σ.ar K):
 (∀d,b=some d->d<n)/\c (σ.put b (.tup []) []).env (σ.put b (.tup []) []).bx (σ.put b (.tup []) []).ar K:=by
 unfold bF6 at h
 cases b with
 |none=>exact⟨(λ_ h=>Ah),h⟩
 |some d=>
  obtain⟨e,f⟩:=aT h;exact⟨(λg h=>by cases h;exact blt e),f⟩
theorem cJ2{b:Type}(f:Nat->b)(s:Nat)(x:b)(h:f s=x):upd f s x=f:=by
 funext t;grind [upd_same,upd_ne]
theorem aX6{e:Md}{n:Nat}{ops:List Oper}{v:OpsK}{K:St->Prop}(h:bH0 T P e n ops o v σ.env σ.bx σ.ar K):
 Step T P e n ops o σ λl=>v l.env l.bx l.ar K:=by
 unfold bH0 at h;obtain⟨A,H,ty,D,z,k⟩:=o;unfold Step;simp only at h⊢
 cases k with
 |none=>
  have f:dB2 T P e n A H v σ.env σ.bx σ.ar K:=h;unfold dB2 at f;split at f
  ·rename_i g c cs
   split at f
   ·rename_i d
    obtain⟨J,r⟩:=aT f;exact .inr (.inl ⟨rfl,d,g,c,cs,rfl,blt J,rfl,r⟩)
   ·exact f.elim
  ·rename_i t m F
   split at f
   ·cases C:allR (λp:Nat×Operand=>allR V.atom (St.ev ⟨σ.env,σ.bx,σ.ar⟩ p.2).cells) F.toList with
    |true=>rw[C]at f;exact .inl (qK f)
    |false=>
     rw[C]at f;obtain⟨x,y,q⟩:=cR5.out f;obtain⟨L,E⟩:=qK q;exact .inr (.inr ⟨rfl,x,y,L,E⟩)
   ·exact .inl (qK f)
  ·exact .inl (qK f)
 |some g=>
  obtain⟨j,i⟩:=g;simp only at h⊢;split at h
  ·rename_i s I
   refine⟨s,I,?_⟩;split at h
   ·rename_i b u
    cases b with
    |true=>
     rw[show upd σ.env s (B true)=σ.env from cJ2 _ _ _ u]at h
     cases i with
     |true=>
      obtain⟨q,r⟩:=qK (σ:=σ) h;simp_all
     |false=>
      obtain⟨q,r⟩:=aD8 (σ:=σ) h;simp_all
    |false=>
     rw[show upd σ.env s (B false)=σ.env from cJ2 _ _ _ u]at h
     cases i with
     |true=>
      obtain⟨q,r⟩:=aD8 (σ:=σ) h;simp_all
     |false=>
      obtain⟨q,r⟩:=qK (σ:=σ) h;simp_all
   ·rename_i cs u
    obtain⟨q,r⟩:=aD8 (σ:=σ) h;exact⟨q, .inr ⟨cs,u,r⟩⟩
   ·exact h.elim
  ·exact h.elim
def Run(T:Tab)(P:Program)(light:Md)(n:Nat)(ops:List Oper):List Oper->St->(St->Prop)->Prop
 | [],σ,K=>K σ
 |o::r,σ,K=>Step T P light n ops o σ λσ'=>Run T P light n ops r σ' K
theorem aJ6(f:Bool)(ar:Nat->Option AE)(c:Operand)(r:List Operand)(env:Nat->V)(bx:Nat->Option (List V))(K:(Nat->V)->(Nat->Option (List V))->List V->Prop):zX f ar (c::r) env bx K=(match St.ev ⟨env,bx,ar⟩ c with
 | .box i off=>match off,bx i with
   |0,some b=>match f with
    |true=>zX f ar r env bx λenv bx e=>K env bx (.box i 0::e)
    |false=>bJ b λb=>cond (allR V.atom b&&Nat.blt i 100000) (zX f ar r (λs=>(env s).frz i b) (frzB i b bx) λenv bx e=>K env bx (.fp b::e)) False
   |_,_=>False
 | .fp cs=>zX f ar r env bx λenv bx e=>K env bx (.fp cs::e)
 |_=>False):=rfl
theorem dS4{g:Bool}{ar:Nat->Option AE}{xs:List Operand}:∀ {env:Nat->V} {bx:Nat->Option (List V)} {K f:(Nat->V)->(Nat->Option (List V))->List V->Prop},(∀env bx b,K env bx b->f env bx b)->zX g ar xs env bx K->zX g ar xs env bx f:=by
 induction xs with
 |nil=>intro env bx K f e h;exact e _ _ _ h
 |cons c r k=>
  intro env bx K f e h;rw[aJ6]at h⊢;split at h
  ·rename_i i off m
   split at h
   ·rename_i j p
    cases g with
    |true=>exact k (λenv bx b=>e _ _ _) h
    |false=>
     simp only at h⊢;rw[bC]at h;obtain⟨l,n⟩:=aT h;rw[bC,l,SG];exact k (λenv bx b=>e _ _ _) n
   ·exact h.elim
  ·exact k (λenv bx b=>e _ _ _) h
  ·exact h.elim
theorem dB3{x:V}{p:Nat->Prop}{q:Nat->Nat->Prop}(h:x.atom=true)(hok:x.ok p q):x.pure:=JI
theorem eI4{xs:List Operand}:∀ {σ:St} {G:Gh} {K:(Nat->V)->(Nat->Option (List V))->List V->Prop},Inv T Φ σ a w G->zX false σ.ar xs σ.env σ.bx K->
 ∃env bx e G',K env bx e/\Inv T Φ ⟨env,bx,σ.ar⟩ a w G'/\Keep w w G G'/\e.length=xs.length/\bM e/\∀(i:Nat) c x,xs[i]? =some c->e[i]? =some x->Rv w G' (a.eval c) x:=by
 induction xs with
 |nil=>intro σ G K inv h;exact⟨σ.env,σ.bx,[],G,h,inv,Keep.refl w G,rfl,BX,λi c x hc=>Ij⟩
 |cons c r H=>
  intro σ G K inv h;rw[aJ6]at h;have U:St.ev ⟨σ.env,σ.bx,σ.ar⟩ c=σ.ev c:=rfl;obtain⟨hv,hok⟩:=inv.ev c
  have q:∀ {e:List V} {E G':Gh} {v:V},Keep w w E G'->Rv w E (a.eval c) v->v.pure->(∀(i:Nat) c x,r[i]? =some c->e[i]? =some x->Rv w G' (a.eval c) x)->∀(i:Nat) u x,(c::r)[i]? =some u->(v::e)[i]? =some x->Rv w G' (a.eval u) x:=by
   intro e E G' v I Q J S i u x hc k
   cases i with
   |zero=>simp at hc k;subst hc;subst k;exact Q.aW I J
   |succ i=>exact S i u x D9 (by simpa using k)
  split at h
  ·rename_i i off g
   split at h
   ·rename_i f t
    simp only at h;rw[bC]at h;obtain⟨B,N⟩:=aT h;rw[QN]at B;have j:bM f:=aH.2 λx k=>dB3 (dY.1 B.1 x k) (aH.1 (inv.wfB i f t) x k);obtain⟨m,D⟩:=inv.bV0 t (blt B.2) j;obtain⟨env,bx,e,G',C,z,l,F,q5,A⟩:=H (σ:=⟨λs=>(σ.env s).frz i f,frzB i f σ.bx,σ.ar⟩) m N;obtain⟨cc,W,M,L,R⟩:=inv.box i f t
    have y:Rv w {G with O:=upd G.O (G.β i) .fz} (a.eval c) (.fp f):=by
     have n:σ.ev c= .box i 0:=g;have:=hv.frz M L j R hok
     grind [zG]
    have hfpp:(V.fp f).pure:=by simp only[V.pure,V.ok];exact j
    exact⟨env,bx,_,G',C,z,⟨λb t=>l.fz b (D.fz b t),λ_ _=>rfl⟩,by simp[F],Hy,q l y hfpp A⟩
   ·exact h.elim
  ·rename_i cs g
   obtain⟨env,bx,e,G',C,z,l,F,q5,A⟩:=H (σ:=σ) inv h;have n:σ.ev c= .fp cs:=g;rw[n]at hv hok;have hfpp:(V.fp cs).pure:=Ba
   exact⟨env,bx,_,G',C,z,l,by simp[F],Hy,q l hv hfpp A⟩
  ·exact h.elim
theorem eF6{xs:List Operand}(inv:Inv T Φ σ a w G):∀ {K:(Nat->V)->(Nat->Option (List V))->List V->Prop},zX true σ.ar xs σ.env σ.bx K->
 ∃b,K σ.env σ.bx b/\b.length=xs.length/\V.okL σ.hasB σ.hasA b/\∀(i:Nat) c x,xs[i]? =some c->b[i]? =some x->Rv w G (a.eval c) x:=by
 induction xs with
 |nil=>intro K h;exact⟨[],h,rfl,BX,λi c x hc=>Ij⟩
 |cons c r k=>
  intro K h;rw[aJ6]at h;obtain⟨hv,j⟩:=inv.ev c
  have f:∀(g:V),σ.ev c=g->(zX true σ.ar r σ.env σ.bx λenv bx b=>K env bx (g::b))->∃b,K σ.env σ.bx b/\b.length=(c::r).length/\V.okL σ.hasB σ.hasA b/\∀(i:Nat) c' x,(c::r)[i]? =some c'->b[i]? =some x->Rv w G (a.eval c') x:=by
   grind [V.okL]
  split at h
  ·rename_i i off e
   split at h
   ·exact f _ e h
   ·exact h.elim
  ·rename_i cs e
   exact f _ e h
  ·exact h.elim
theorem dA6{k:Bool}{xs:List Operand}{K:(Nat->V)->(Nat->Option (List V))->List V->Prop}(inv:Inv T Φ σ a w G)(h:zX k σ.ar xs σ.env σ.bx K):
 ∃env bx b G',K env bx b/\Inv T Φ ⟨env,bx,σ.ar⟩ a w G'/\b.length=xs.length/\V.okL (St.hasB ⟨env,bx,σ.ar⟩) (St.hasA ⟨env,bx,σ.ar⟩) b/\∀(i:Nat) c x,xs[i]? =some c->b[i]? =some x->Rv w G' (a.eval c) x:=by
 cases k with
 |true=>
  obtain⟨b,g,e,j,f⟩:=eF6 inv h;exact⟨σ.env,σ.bx,b,G,g,inv,e,j,f⟩
 |false=>
  obtain⟨env,bx,b,G',g,e,j,f,m,n⟩:=eI4 inv h;exact⟨env,bx,b,G',g,e,f,aH.2 λx l=>V.pure.ok (aH.1 m x l) _ _,n⟩
theorem Step.mono{b:Md}{n:Nat}{ops:List Oper}{K i:St->Prop}(j:∀(σ:St) (g f:VK),(∀v e,g v e->f v e)->bW T P b σ (o.dst.getD n) o.op g->bW T P b σ (o.dst.getD n) o.op f)(h:Step T P b n ops o σ K)(k:∀c,K c->i c):Step T P b n ops o σ i:=by
 unfold Step at*;split at h
 ·grind [dS4]
 ·grind
theorem xK(w:World)(G:Gh):Rv w G undef (.tup []):= .tup #[] [] rfl (λi c x hc=>Ij)
theorem bZ3(M:bP T P)(inv:Inv T Φ σ a w G){k:Md}{ops:List Oper}{K:St->Prop}{f:Array Oper}(hA:f.toList=ops)(m:∀d,o.dst=some d->Φ.keep d=none)(h:Step T P k Φ.n ops o σ K){Q:Exit->Act->World->Prop}(D:Option Nat):
 if Region.wanted o (yielded f a.tmps)=true then o.wpIn (FW D) 0 P a w (λF w'=>∃e G',K e/\Inv T Φ e F w' G') Q else∃G',∃e,K e/\Inv T Φ e (a.put o.dst undef) w G':=by
 unfold Step at h
 have J:(∀d,o.dst=some d->d<Φ.n)->(bW T P k σ (o.dst.getD Φ.n) o.op λv W=>K (σ.put o.dst v W))->o.wpIn (FW D) 0 P a w (λF w'=>∃e G',K e/\Inv T Φ e F w' G') Q:=by
  intro I H;refine Oper.wpIn_mono ?_ (dF4 M inv o (λd h=>⟨I d h,m d h⟩) H (Q:=Q) D);grind
 have skip:(∀d,o.dst=some d->d<Φ.n)->K (σ.put o.dst (.tup []) [])->∃G',∃e,K e/\Inv T Φ e (a.put o.dst undef) w G':=by
  intro I O;refine⟨G,_,O,?_⟩;exact Inv.put' [] inv (λd h=>⟨I d h,m d h⟩) (xK w G) Ep
 split at h
 ·rename_i hg
  rw[Q9 CW];rcases h with h|⟨_,d,g,c,cs,q,z,r,N⟩|⟨_,R,q,z,r⟩
  ·exact J h.1 h.2
  rotate_left
  ·unfold Le at q
   obtain⟨G1,t⟩:=q Φ a w G inv;refine Oper.wpIn_mono ?_ (dF4 M t o (λd h=>⟨z d h,m d h⟩) r (Q:=Q) D);grind
  ·obtain⟨env,bx,A,G',y,C,Y,U,q6⟩:=dA6 inv N
   have Z:(execOp a.eval o).run P w= .ok (.value (.func (.func g) #[] ((c::cs).map a.eval).toArray)) w:=by
    simp[execOp,r,Instr.makeFunc]
   refine dD1 (λc=>by rw[r];exact λh=>by cases h) ?_
   unfold Oper.wp;rw[Z,TN];refine⟨_,G',y,?_⟩;rw[q];refine Inv.bA3 (σ:=⟨env,bx,σ.ar⟩) C ⟨z,m d q⟩ ?_ (by simp only[V.ok];exact U)
   refine .fn g _ A (by simp[Y]) (λi u x hu hx=>?_)
   grind
 ·rename_i j B hg
  obtain⟨s,q,z,r⟩:=h
  have l:(f[j]?).bind (·.dst)=some s:=by
   grind [uN,tV]
  have X:Region.wanted o (yielded f a.tmps)=(yielded f a.tmps j==some B):=CW;have E:=inv.env s
  rcases r with⟨b,y,C⟩|⟨cs,y,C⟩
  ·rw[y]at E
   have hv:=E.bH
   have S:a.tmps[s]? =some (.bool b):=by
    cases h:a.tmps[s]? with
    |none=>simp[h,undef]at hv
    |some u=>simp[h]at hv;rw[hv]
   have L:yielded f a.tmps j=some b:=by simp[yielded,l,S]
   grind
  ·rw[y]at E
   obtain⟨vs,hv,_⟩:=E.eP1
   have L:yielded f a.tmps j=none:=by
    simp only[yielded,l,Option.bind_some];cases h:a.tmps[s]? <;>simp_all
   rw[X,L,Q5 Ae];exact skip z C
theorem eB0(u:bP T P){e:Md}{ops:List Oper}{K:St->Prop}{c:Array Oper}(s:c.toList=ops){Q:Exit->Act->World->Prop}(j:Option Nat)(m:∀b k w' G',K b->Inv T Φ b k w' G'->Q .normal k w'):
 ∀(l:List Oper) (σ:St) (a:Act) (w:World) (G:Gh),(∀o∈l,∀d,o.dst=some d->Φ.keep d=none)->Inv T Φ σ a w G->Run T P e Φ.n ops l σ K->wpListIn (FW j) 0 P c Q l a w:=by
 intro l
 induction l with
 |nil=>intro σ a w G _ inv h;exact m σ a w G h inv
 |cons o r v=>
  intro σ a w G g inv h;have:=bZ3 u inv s (o:=o) (g o Ae) h (Q:=Q) j;unfold wpListIn;split
  ·rename_i i
   rw[Q9 i]at this;grind [Oper.wpIn_mono]
  ·rename_i i
   rw[Q5 i]at this;obtain⟨G',b,q,f⟩:=this;exact⟨λ_ _=>trivial,v b _ w G' (λo t=>g o (by simp[t])) f q⟩
end
end Go.Ab
