/-
  What comes back from a call to which variables are lent.
-/
import Derived.Test.YtkhhdojgbkophaaGreatA8
import Derived.Test.YtkhhdojgbkophaaGreatA3
set_option linter.unusedVariables false
set_option linter.unusedSimpArgs false
namespace Go.Ab
section
variable{T:Tab}{P:Program}{Φ:Fr}{σ:St}{a:Act}{w w':World}{G G':Gh}{K:VK}{o:Oper}{d:Nat}
def Lent(n i:Nat):Prop:=100000<=i/\i<100000+n
theorem zL(ar:Nat->Option AE)(is ok:List Nat)(y:V)(r:List V)(x:V)(xr:List V)(N:Nat)(K:List V->List Mod->Prop):oJ ar is ok (y::r) (x::xr) N K=(match y with
        | .own e l=>xO ar ok N .own e l x fun v m=>oJ ar is ok r xr (N+1000) fun vs ms=>K (v::vs) (m::ms)
        | .ap e l=>xO ar ok N .ap e l x fun v m=>oJ ar is ok r xr (N+1000) fun vs ms=>K (v::vs) (m::ms)
        |y=>force (y.ren (renF is)) fun v=>oJ ar is ok r xr (N+1000) fun vs ms=>K (v::vs) ms):=rfl
theorem aT3{ar:Nat->Option AE}{ok:List Nat}{N:Nat}{kd:AK}{e:TypeId}{l:List V}{x:V}{K:V->Mod->Prop}(h:xO ar ok N kd e l x K):
 (∃k g en,x= .arr k g/\k∈ok/\ar k=some en/\K (.arr k (en.gen+1)) (.a k ⟨en.gen+1,kd,e,l⟩))\/(ar N=none/\K (.arr N 0) (.a N ⟨0,kd,e,l⟩)):=by
 unfold xO at h
 split at h
 ·rename_i k g
  split at h
  ·rename_i hm
   split at h
   ·rename_i en hen
    exact .inl ⟨k,g,en,rfl,pM.1 hm,hen,h⟩
   ·exact h.elim
  ·split at h
   ·rename_i hn;exact .inr ⟨hn,h⟩
   ·exact h.elim
 ·split at h
  ·rename_i hn;exact .inr ⟨hn,h⟩
  ·exact h.elim
theorem bJ5{ar:Nat->Option AE}{ok:List Nat}{N:Nat}{kd:AK}{e:TypeId}{l:List V}{x:V}{K K':V->Mod->Prop}(hk:∀v m,K v m->K' v m)(h:xO ar ok N kd e l x K):xO ar ok N kd e l x K':=by
 unfold xO at*
 split at h
 ·split at h
  ·split at h
   ·exact hk _ _ h
   ·exact h.elim
  ·split at h
   ·exact hk _ _ h
   ·exact h.elim
 ·split at h
  ·exact hk _ _ h
  ·exact h.elim
theorem cQ2{ar:Nat->Option AE}{is ok:List Nat}:∀ {ys xs:List V} {N:Nat} {K K':List V->List Mod->Prop},(∀vs ms,K vs ms->K' vs ms)->oJ ar is ok ys xs N K->oJ ar is ok ys xs N K':=by
 intro ys
 induction ys with
 |nil=>
  intro xs N K K' hk h
  cases xs with
  |nil=>exact hk _ _ h
  |cons x r=>exact(h:False).elim
 |cons y r ih=>
  intro xs N K K' hk h
  cases xs with
  |nil=>exact(h:False).elim
  |cons x xr=>
   rw[zL]at h⊢
   split at h
   ·exact bJ5 (fun v m h=>ih (fun vs ms=>hk _ _) h) h
   ·exact bJ5 (fun v m h=>ih (fun vs ms=>hk _ _) h) h
   ·rw[force_eq]at h⊢
    exact ih (fun vs ms=>hk _ _) h
set_option maxHeartbeats 1600000 in
theorem aU0{Gx:Gh}{σ0:St}{is ok:List Nat}{n:Nat}:∀(ys olds:List V) (N t:Nat) (σ:St) (G:Gh) (us:List Value) (K:List V->List Mod->Prop),
 Inv T Φ σ a w G->us.length=ys.length->(∀q,q<ys.length->σ0.ar (N+1000*q)=none->σ.ar (N+1000*q)=none)->
 (∀(q:Nat) k g en,olds[q]? =some (.arr k g)->k∈ok->σ0.ar k=some en->∀g',σ.hasA k g'->g'<=en.gen)->
 (∀(q q':Nat) k g g',olds[q]? =some (.arr k g)->olds[q']? =some (.arr k g')->k∈ok->q=q')->
 (∀(i:Nat) u y,us[i]? =some u->ys[i]? =some y->RbB T w Gx n (t+i) u y)->Keep w w Gx G->(∀i,Lent n i->G.β (renF is i)=Gx.β i/\σ.hasB (renF is i))->
 (∀i b,i<ys.length->Gx.O b= .ar (t+i)->G.O b= .ext/\Φ.mine b/\b<w.heap.size)->oJ σ0.ar is ok ys olds N K->
 ∃vs ms G',K vs ms/\Inv T Φ (σ.apps ms) a w G'/\vs.length=ys.length/\(∀(i:Nat) u v,us[i]? =some u->vs[i]? =some v->Rv w G' u v/\v.ok (σ.apps ms).hasB (σ.apps ms).hasA)/\
  G'.β=G.β/\(∀k g,σ.hasA k g->G'.av k g=G.av k g)/\(∀b,G.O b≠ .ext->G'.O b=G.O b)/\(∀b,(∀i,i<ys.length->Gx.O b≠ .ar (t+i))->G'.O b=G.O b)/\
  (∀k g,σ.hasA k g->(σ.apps ms).hasA k g)/\(σ.apps ms).bx=σ.bx/\
  (∀k,(∀q,q<ys.length->σ0.ar (N+1000*q)=none->k≠N+1000*q)->(∀(q:Nat) g,olds[q]? =some (.arr k g)->k∉ok)->(σ.apps ms).ar k=σ.ar k):=by
 intro ys
 induction ys with
 |nil=>
  intro olds N t σ G us K inv hl _ _ _ _ _ _ _ h
  have hus:us=[] :=List.eq_nil_of_length_eq_zero (by simpa using hl)
  subst hus
  cases olds with
  |nil=>exact⟨[],[],G,h,inv,rfl,fun i u v hu=>by simp at hu,rfl,fun _ _ _=>rfl,fun _ _=>rfl,fun _ _=>rfl,fun _ _ h=>h,rfl,fun _ _ _=>rfl⟩
  |cons x r=>exact(h:False).elim
 |cons y r ih=>
  intro olds N t σ G us K inv hl hfresh hre huniq hrb hkx hβ hpend h
  cases olds with
  |nil=>exact(h:False).elim
  |cons x xr=>
  cases us with
  |nil=>simp at hl
  |cons u ur=>
   have hl':ur.length=r.length:=by simpa using hl
   have hrb':∀(i:Nat) u y,ur[i]? =some u->r[i]? =some y->RbB T w Gx n (t+1+i) u y:=fun i u y hu hy=>by
    have:=hrb (i+1) u y (by simpa using hu) (by simpa using hy)
    rwa [show t+(i+1)=t+1+i by omega]at this
   have take:∀(k g:Nat) (kd:AK) (e:TypeId) (l:List V),(kd= .own\/kd= .ap)->(∀g',σ.hasA k g'->g'<g)->(∀q,q<r.length->σ0.ar (N+1000+1000*q)=none->k≠N+1000+1000*q)->
    (∀(q:Nat) k' g' en,xr[q]? =some (.arr k' g')->k'∈ok->σ0.ar k'=some en->k'≠k)->
    ((∃g0,x= .arr k g0/\k∈ok)\/(k=N/\σ0.ar N=none))->e<T.n e->bM l->
    (gJ T w Gx t u e l\/(kd= .ap/\Rv w Gx u (.cap l)/\∀x∈l,x.cells.length=(T.row e).size))->
    (oJ σ0.ar is ok r xr (N+1000) fun vs ms=>K (.arr k g::vs) (.a k ⟨g,kd,e,l⟩::ms))->
    ∃vs ms G',K vs ms/\Inv T Φ (σ.apps ms) a w G'/\vs.length=(y::r).length/\(∀(i:Nat) u' v,(u::ur)[i]? =some u'->vs[i]? =some v->Rv w G' u' v/\v.ok (σ.apps ms).hasB (σ.apps ms).hasA)/\
     G'.β=G.β/\(∀k g,σ.hasA k g->G'.av k g=G.av k g)/\(∀b,G.O b≠ .ext->G'.O b=G.O b)/\(∀b,(∀i,i< (y::r).length->Gx.O b≠ .ar (t+i))->G'.O b=G.O b)/\
     (∀k g,σ.hasA k g->(σ.apps ms).hasA k g)/\(σ.apps ms).bx=σ.bx/\
     (∀k,(∀q,q< (y::r).length->σ0.ar (N+1000*q)=none->k≠N+1000*q)->(∀(q:Nat) g,(x::xr)[q]? =some (.arr k g)->k∉ok)->(σ.apps ms).ar k=σ.ar k):=by
    intro k g kd e l hkd hno hne hne2 hwhich he hp hown hrest
    obtain⟨G1,inv1,a1,a2,a3,a4,a5⟩:=inv.eV5 (k:=k) (gen:=g) hno hkd he hp hown hkx (fun b hb=>hpend 0 b (by simp) (by simpa using hb))
    have hA1:∀k' g',σ.hasA k' g'->(σ.apps [.a k ⟨g,kd,e,l⟩]).hasA k' g':=fun k' g' hh=>by
     by_cases e1:k'=k
     ·subst e1;exact⟨_,upd_same _ _ _,Nat.le_of_lt (hno g' hh)⟩
     ·obtain⟨x,hx,hg⟩:=hh
      exact⟨x,by show upd σ.ar k _ k'=_;rw[upd_ne _ _ e1];exact hx,hg⟩
    have har1:∀k',k'≠k->(σ.apps [.a k ⟨g,kd,e,l⟩]).ar k'=σ.ar k':=fun k' e1=>upd_ne _ _ e1
    have hO1:∀b,G.O b≠ .ext->G1.O b=G.O b:=fun b hb=>a3 b (fun hb2=>hb (hpend 0 b (by simp) (by simpa using hb2)).1)
    have hkp1:Keep w w G G1:=⟨fun b hb=>(hO1 b (by rw[hb];simp)).trans hb,fun _ _=>rfl⟩
    obtain⟨vs,ms,G',b1,b2,b3,b4,b5,b6,b7,b8,b9,b10,b11⟩:=ih xr (N+1000) (t+1) (σ.apps [.a k ⟨g,kd,e,l⟩]) G1 ur _ inv1 hl'
     (fun q hq hn=>by
      rw[har1 _ (Ne.symm (hne q hq hn))]
      have:=hfresh (q+1) (by simp;omega) (by rw[show N+1000*(q+1)=N+1000+1000*q by omega];exact hn)
      rwa [show N+1000*(q+1)=N+1000+1000*q by omega]at this)
     (fun q k' g' en hq hk hen g'' hh=>by
      have hkne:=hne2 q k' g' en hq hk hen
      obtain⟨en',h1,h2⟩:=hh
      rw[har1 _ hkne]at h1
      exact hre (q+1) k' g' en (by simpa using hq) hk hen g'' ⟨en',h1,h2⟩)
     (fun q q' k' g1 g2 hq hq' hk=>by
      have:=huniq (q+1) (q'+1) k' g1 g2 (by simpa using hq) (by simpa using hq') hk
      omega)
     hrb' ⟨fun b hb=>hkp1.fz b (hkx.fz b hb),fun _ _=>rfl⟩
     (fun i hi=>⟨by rw[a4];exact(hβ i hi).1,(hβ i hi).2⟩)
     (fun i b hi hb=>by
      have hb':Gx.O b= .ar (t+(i+1)):=by rw[show t+(i+1)=t+1+i by omega];exact hb
      have:=hpend (i+1) b (by simp;omega) hb'
      refine⟨?_,this.2⟩
      rw[a3 b (by rw[hb];intro e;have:=Tag.ar.inj e;omega)]
      exact this.1) hrest
    refine⟨_,_,G',b1,b2,by simp[b3],?_,b5.trans a4,fun k' g' hh=>(b6 k' g' (hA1 k' g' hh)).trans (a5 k' g' hh),fun b hb=>?_,fun b hb=>?_,fun k' g' hh=>b9 k' g' (hA1 k' g' hh),b10,fun k' h1 h2=>?_⟩
    ·intro i u' v hu hv
     cases i with
     |zero=>
      simp at hu hv
      subst hu;subst hv
      have hA:(σ.apps [.a k ⟨g,kd,e,l⟩]).hasA k g:=⟨_,upd_same _ _ _,Nat.le_refl _⟩
      have e1:G'.av k g=u:=(b6 k g hA).trans a1
      refine⟨?_,by simp only[V.ok];exact b9 k g hA⟩
      rw[<-e1]
      exact .arr k g (by rw[e1];exact a2)
     |succ i=>exact b4 i u' v (by simpa using hu) (by simpa using hv)
    ·have:=hO1 b hb
     rw[b7 b (by rw[this];exact hb)]
     exact this
    ·rw[b8 b (fun i hi=>by rw[show t+1+i=t+(i+1) by omega];exact hb (i+1) (by simp;omega)),a3 b (by simpa using hb 0 (by simp))]
    ·have hk':k'≠k:=by
      rintro rfl
      rcases hwhich with⟨g0,hx,hk⟩|⟨rfl,hn⟩
      ·exact h2 0 g0 (by simp[hx]) hk
      ·exact h1 0 (by simp) (by simpa using hn) (by simp)
     have:=b11 k' (fun q hq hn=>by
      have:=h1 (q+1) (by simp;omega) (by rw[show N+1000*(q+1)=N+1000+1000*q by omega];exact hn)
      rwa [show N+1000*(q+1)=N+1000+1000*q by omega]at this) (fun q g hq=>h2 (q+1) g (by simpa using hq))
     exact this.trans (har1 k' hk')
   have plain:linear y=false->(oJ σ0.ar is ok r xr (N+1000) fun vs ms=>K (y.ren (renF is)::vs) ms)->
    ∃vs ms G',K vs ms/\Inv T Φ (σ.apps ms) a w G'/\vs.length=(y::r).length/\(∀(i:Nat) u' v,(u::ur)[i]? =some u'->vs[i]? =some v->Rv w G' u' v/\v.ok (σ.apps ms).hasB (σ.apps ms).hasA)/\
     G'.β=G.β/\(∀k g,σ.hasA k g->G'.av k g=G.av k g)/\(∀b,G.O b≠ .ext->G'.O b=G.O b)/\(∀b,(∀i,i< (y::r).length->Gx.O b≠ .ar (t+i))->G'.O b=G.O b)/\
     (∀k g,σ.hasA k g->(σ.apps ms).hasA k g)/\(σ.apps ms).bx=σ.bx/\
     (∀k,(∀q,q< (y::r).length->σ0.ar (N+1000*q)=none->k≠N+1000*q)->(∀(q:Nat) g,(x::xr)[q]? =some (.arr k g)->k∉ok)->(σ.apps ms).ar k=σ.ar k):=by
    intro hly hrest
    obtain⟨vs,ms,G',b1,b2,b3,b4,b5,b6,b7,b8,b9,b10,b11⟩:=ih xr (N+1000) (t+1) σ G ur _ inv hl'
     (fun q hq hn=>by
      have:=hfresh (q+1) (by simp;omega) (by rw[show N+1000*(q+1)=N+1000+1000*q by omega];exact hn)
      rwa [show N+1000*(q+1)=N+1000+1000*q by omega]at this)
     (fun q k' g' en hq hk hen=>hre (q+1) k' g' en (by simpa using hq) hk hen)
     (fun q q' k' g1 g2 hq hq' hk=>by
      have:=huniq (q+1) (q'+1) k' g1 g2 (by simpa using hq) (by simpa using hq') hk
      omega)
     hrb' hkx hβ
     (fun i b hi hb=>by
      have hb':Gx.O b= .ar (t+(i+1)):=by rw[show t+(i+1)=t+1+i by omega];exact hb
      exact hpend (i+1) b (by simp;omega) hb') hrest
    refine⟨_,_,G',b1,b2,by simp[b3],?_,b5,b6,b7,fun b hb=>b8 b (fun i hi=>by rw[show t+1+i=t+(i+1) by omega];exact hb (i+1) (by simp;omega)),b9,b10,fun k' h1 h2=>?_⟩
    ·intro i u' v hu hv
     cases i with
     |zero=>
      simp at hu hv
      subst hu;subst hv
      have hb:=hrb 0 u y rfl rfl
      have hb':y.ok (Lent n) (fun _ _=>False)/\Rv w Gx u y:=by
       unfold RbB at hb
       split at hb
       ·simp[linear]at hly
       ·simp[linear]at hly
       ·exact hb
      have hkp:Keep w w Gx G':=⟨fun b hb=>(b7 b (by rw[hkx.fz b hb];simp)).trans (hkx.fz b hb),fun _ _=>rfl⟩
      refine⟨hb'.2.ren hkp hb'.1 (fun i hi=>by rw[b5];exact(hβ i hi).1),?_⟩
      refine V.ok.imp (fun _ h=>h) (fun _ _ h=>h.elim) _ (V.ok.ren (p':=(σ.apps ms).hasB) (fun i hi=>?_) y hb'.1)
      unfold St.hasB
      rw[b10]
      exact(hβ i hi).2
     |succ i=>exact b4 i u' v (by simpa using hu) (by simpa using hv)
    ·exact b11 k' (fun q hq hn=>by
      have:=h1 (q+1) (by simp;omega) (by rw[show N+1000*(q+1)=N+1000+1000*q by omega];exact hn)
      rwa [show N+1000*(q+1)=N+1000+1000*q by omega]at this) (fun q g hq=>h2 (q+1) g (by simpa using hq))
   have hb0:=hrb 0 u y rfl rfl
   rw[Nat.add_zero]at hb0
   have go:∀(kd:AK) (e:TypeId) (l:List V),(kd= .own\/kd= .ap)->e<T.n e->bM l->(gJ T w Gx t u e l\/(kd= .ap/\Rv w Gx u (.cap l)/\∀x∈l,x.cells.length=(T.row e).size))->
    (xO σ0.ar ok N kd e l x fun v m=>oJ σ0.ar is ok r xr (N+1000) fun vs ms=>K (v::vs) (m::ms))->
    ∃vs ms G',K vs ms/\Inv T Φ (σ.apps ms) a w G'/\vs.length=(y::r).length/\(∀(i:Nat) u' v,(u::ur)[i]? =some u'->vs[i]? =some v->Rv w G' u' v/\v.ok (σ.apps ms).hasB (σ.apps ms).hasA)/\
     G'.β=G.β/\(∀k g,σ.hasA k g->G'.av k g=G.av k g)/\(∀b,G.O b≠ .ext->G'.O b=G.O b)/\(∀b,(∀i,i< (y::r).length->Gx.O b≠ .ar (t+i))->G'.O b=G.O b)/\
     (∀k g,σ.hasA k g->(σ.apps ms).hasA k g)/\(σ.apps ms).bx=σ.bx/\
     (∀k,(∀q,q< (y::r).length->σ0.ar (N+1000*q)=none->k≠N+1000*q)->(∀(q:Nat) g,(x::xr)[q]? =some (.arr k g)->k∉ok)->(σ.apps ms).ar k=σ.ar k):=by
    intro kd e l hkd he hp hown hA
    rcases aT3 hA with⟨k,g,en,hx,hk,hen,hK⟩|⟨hn,hK⟩
    ·refine take k (en.gen+1) kd e l hkd (fun g' hg'=>Nat.lt_succ_of_le (hre 0 k g en (by simp[hx]) hk hen g' hg')) (fun q _ hn e=>by rw[<-e,hen]at hn;cases hn) (fun q k' g' en' hq hk' hen' e=>?_) (.inl ⟨g,hx,hk⟩) he hp hown hK
     subst e
     have:=huniq 0 (q+1) k' g g' (by simp[hx]) (by simpa using hq) hk'
     omega
    ·have hn':=hfresh 0 (by simp) (by simpa using hn)
     rw[Nat.mul_zero,Nat.add_zero]at hn'
     exact take N 0 kd e l hkd (zK hn' 0) (fun q _ _=>by omega) (fun q k' g' en' _ _ hen' e=>by rw[e,hn]at hen';cases hen') (.inr ⟨rfl,hn⟩) he hp hown hK
   rw[zL]at h
   split at h
   ·rename_i e l
    obtain⟨q1,q2,q3⟩:=hb0
    exact go .own e l (.inl rfl) q1 q2 (.inl q3) h
   ·rename_i e l
    obtain⟨q1,q2,q3⟩:=hb0
    exact go .ap e l (.inr rfl) q1 q2 (q3.imp id (fun h=>⟨rfl,h⟩)) h
   ·rename_i h1 h2
    rw[force_eq]at h
    exact plain (oW h1 h2) h
theorem aJ1(bx:Nat->Option (List V))(ar:Nat->Option AE)(is0 ok:List Nat)(b:List V)(r:List (List V))(i:Nat)(ir:List Nat)(N:Nat)(K:List Mod->Prop):aB3 bx ar is0 ok (b::r) (i::ir) N K=(match bx i with
        |some cs=>oJ ar is0 ok b cs N fun vs ms=>aB3 bx ar is0 ok r ir (N+1000000) fun ns=>K (appR ms (.b i vs::ns))
        |none=>False):=rfl
set_option maxHeartbeats 1600000 in
theorem cI1{Gx:Gh}{σ0:St}{is ok:List Nat}{n:Nat}(hoks:∀k∈ok,σ0.ar k≠none):∀(bs:List (List V)) (ir:List Nat) (N t:Nat) (σ:St) (G:Gh) (K:List Mod->Prop),
 Inv T Φ σ a w G->
 (∀(j:Nat) b i,bs[j]? =some b->ir[j]? =some i->∃cs old c ty,σ0.bx i=some cs/\σ.bx i=some old/\w.heap[G.β i]? =some (.cells c ty (0,0))/\c.size=b.length/\b.length<1000/\
  ∀(q:Nat) v y,c[q]? =some v->b[q]? =some y->v.oneCell'=true/\RbB T w Gx n (t+100000*j+q) v y)->
 (∀(j:Nat) b,bs[j]? =some b->∀q,q<b.length->σ0.ar (N+1000000*j+1000*q)=none->σ.ar (N+1000000*j+1000*q)=none)->
 (∀(j:Nat) i cs (q:Nat) k g en,ir[j]? =some i->σ0.bx i=some cs->cs[q]? =some (.arr k g)->k∈ok->σ0.ar k=some en->∀g',σ.hasA k g'->g'<=en.gen)->
 (∀(j j':Nat) i i' cs cs' (q q':Nat) k g g',ir[j]? =some i->ir[j']? =some i'->σ0.bx i=some cs->σ0.bx i'=some cs'->cs[q]? =some (.arr k g)->cs'[q']? =some (.arr k g')->k∈ok->j=j'/\q=q')->
 Keep w w Gx G->(∀i,Lent n i->G.β (renF is i)=Gx.β i/\σ.hasB (renF is i))->
 (∀(j:Nat) b,bs[j]? =some b->∀q blk,q<b.length->Gx.O blk= .ar (t+100000*j+q)->G.O blk= .ext/\Φ.mine blk/\blk<w.heap.size)->aB3 σ0.bx σ0.ar is ok bs ir N K->
 ∃ns G',K ns/\Inv T Φ (σ.apps ns) a w G'/\G'.β=G.β/\(∀k g,σ.hasA k g->G'.av k g=G.av k g)/\(∀b,G.O b≠ .ext->G'.O b=G.O b)/\
  (∀k g,σ.hasA k g->(σ.apps ns).hasA k g)/\(∀i,σ.hasB i->(σ.apps ns).hasB i)/\∀i∈ir,∃cs,Mod.b i cs∈ns:=by
 intro bs
 induction bs with
 |nil=>
  intro ir N t σ G K inv _ _ _ _ _ _ _ h
  cases ir with
  |nil=>exact⟨[],G,h,inv,rfl,fun _ _ _=>rfl,fun _ _=>rfl,fun _ _ h=>h,fun _ h=>h,fun i hi=>by cases hi⟩
  |cons i r=>exact(h:False).elim
 |cons b r ih=>
  intro ir N t σ G K inv hbx hfresh hre huniq hkx hβ hpend h
  cases ir with
  |nil=>exact(h:False).elim
  |cons i ir=>
   rw[aJ1]at h
   obtain⟨cs,old,c,ty,x1,x2,x3,x4,x4',x5⟩:=hbx 0 b i rfl rfl
   rw[x1]at h
   simp only at h
   have hlen:c.toList.length=b.length:=by simpa using x4
   obtain⟨vs,ms,G1,b1,b2,b3,b4,b5,b6,b7,b8,b9,b10,b11⟩:=aU0 (Gx:=Gx) (σ0:=σ0) (is:=is) (ok:=ok) (n:=n) b cs N t σ G c.toList _ inv hlen
    (fun q hq hn=>by
     have:=hfresh 0 b rfl q hq (by simpa using hn)
     simpa using this)
    (fun q k g en hq hk hen=>hre 0 i cs q k g en rfl x1 hq hk hen)
    (fun q q' k g g' hq hq' hk=>(huniq 0 0 i i cs cs q q' k g g' rfl rfl x1 x1 hq hq' hk).2)
    (fun q u y hu hy=>by
     have:=(x5 q u y (by simpa using hu) hy).2
     simpa using this) hkx hβ
    (fun q blk hq hb=>hpend 0 b rfl q blk hq (by simpa using hb)) h
   have hok1:V.okL (σ.apps ms).hasB (σ.apps ms).hasA vs:=aH.2 fun v hv=>by
    obtain⟨q,hq⟩:=List.getElem?_of_mem hv
    have hlt:q<c.toList.length:=by rw[hlen,<-b3];exact(List.getElem?_eq_some_iff.1 hq).1
    exact(b4 q _ v (List.getElem?_eq_getElem hlt) hq).2
   have hrv:RvL w G1 c.toList vs:=⟨by rw[hlen,b3],fun u hu=>by
    obtain⟨q,hq⟩:=List.getElem?_of_mem hu
    have hlt:q<b.length:=by rw[<-hlen];exact(List.getElem?_eq_some_iff.1 hq).1
    exact(x5 q u _ (by simpa using hq) (List.getElem?_eq_getElem hlt)).1,fun q u v hu hv=>(b4 q u v hu hv).1⟩
   have inv2:Inv T Φ ((σ.apps ms).apps [.b i vs]) a w G1:=b2.eJ4 (i:=i) (old:=old) (by rw[b10];exact x2) (c:=c) (t:=ty) hrv hok1 (by rw[b5];exact x3) (fun _ _=>rfl) rfl rfl rfl rfl
   have hB2:∀i',σ.hasB i'->((σ.apps ms).apps [.b i vs]).hasB i':=fun i' ⟨y,hy⟩=>by
    by_cases e:i'=i
    ·subst e;exact⟨vs,upd_same _ _ _⟩
    ·exact⟨y,by show upd (σ.apps ms).bx i _ i'=_;rw[upd_ne _ _ e,b10];exact hy⟩
   have har2:((σ.apps ms).apps [.b i vs]).ar=(σ.apps ms).ar:=rfl
   have hkeys:∀(j:Nat) i' cs' (q:Nat) k g,ir[j]? =some i'->σ0.bx i'=some cs'->cs'[q]? =some (.arr k g)->k∈ok->∀(q0:Nat) g0,cs[q0]? =some (.arr k g0)->False:=by
    intro j i' cs' q k g hj hc hq hk q0 g0 hq0
    have:=(huniq 0 (j+1) i i' cs cs' q0 q k g0 g rfl (by simpa using hj) x1 hc hq0 hq hk).1
    omega
   obtain⟨ns,G',d1,d2,d3,d4,d5,d6,d7,d8⟩:=ih ir (N+1000000) (t+100000) ((σ.apps ms).apps [.b i vs]) G1 _ inv2
    (fun j b' i' hb hi=>by
     obtain⟨cs',old',c',ty',y1,y2,y3,y4,y4',y5⟩:=hbx (j+1) b' i' (by simpa using hb) (by simpa using hi)
     obtain⟨old2,h2⟩:=hB2 i' ⟨old',y2⟩
     refine⟨cs',old2,c',ty',y1,h2,by rw[b5];exact y3,y4,y4',fun q v y hv hy=>?_⟩
     have:=y5 q v y hv hy
     rwa [show t+100000*(j+1)+q=t+100000+100000*j+q by omega]at this)
    (fun j b' hb q hq hn=>by
     rw[har2,b11 _ (fun q' hq' _ e=>by omega) (fun q' g' hq' hk=>hoks _ hk hn)]
     have:=hfresh (j+1) b' (by simpa using hb) q hq (by rw[show N+1000000*(j+1)+1000*q=N+1000000+1000000*j+1000*q by omega];exact hn)
     rwa [show N+1000000*(j+1)+1000*q=N+1000000+1000000*j+1000*q by omega]at this)
    (fun j i' cs' q k g en hj hc hq hk hen g' hh=>by
     refine hre (j+1) i' cs' q k g en (by simpa using hj) hc hq hk hen g' ?_
     obtain⟨en',h1,h2⟩:=hh
     rw[har2,b11 k (fun q' _ hn e=>by rw[<-e,hen]at hn;cases hn) (fun q0 g0 hq0 _=>hkeys j i' cs' q k g hj hc hq hk q0 g0 hq0)]at h1
     exact⟨en',h1,h2⟩)
    (fun j j' i1 i2 cs1 cs2 q q' k g g' hj hj' hc hc' hq hq' hk=>by
     have:=huniq (j+1) (j'+1) i1 i2 cs1 cs2 q q' k g g' (by simpa using hj) (by simpa using hj') hc hc' hq hq' hk
     omega)
    ⟨fun blk hb=>(b7 blk (by rw[hkx.fz blk hb];simp)).trans (hkx.fz blk hb),fun _ _=>rfl⟩
    (fun i' hi'=>⟨by rw[b5];exact(hβ i' hi').1,hB2 _ (hβ i' hi').2⟩)
    (fun j b' hb q blk hq hO=>by
     have hO':Gx.O blk= .ar (t+100000*(j+1)+q):=by rw[show t+100000*(j+1)+q=t+100000+100000*j+q by omega];exact hO
     have:=hpend (j+1) b' (by simpa using hb) q blk hq hO'
     refine⟨?_,this.2⟩
     rw[b8 blk (fun i0 hi0=>by rw[hO];intro e;have:=Tag.ar.inj e;omega)]
     exact this.1) b1
   refine⟨_,G',d1,?_,d3.trans b5,fun k g hh=>(d4 k g (b9 k g hh)).trans (b6 k g hh),fun blk hb=>?_,fun k g hh=>?_,fun i' hi'=>?_,?_⟩
   ·rw[bT,dO,show(Mod.b i vs::ns)=[Mod.b i vs] ++ns from rfl,dO];exact d2
   ·have:=b7 blk hb
    rw[d5 blk (by rw[this];exact hb)];exact this
   ·rw[bT,dO,show(Mod.b i vs::ns)=[Mod.b i vs] ++ns from rfl,dO];exact d6 k g (b9 k g hh)
   ·rw[bT,dO,show(Mod.b i vs::ns)=[Mod.b i vs] ++ns from rfl,dO];exact d7 i' (hB2 i' hi')
   ·intro i' hi'
    rw[bT]
    rcases List.mem_cons.1 hi' with rfl|hi'
    ·exact⟨vs,by simp⟩
    ·obtain⟨cs',h⟩:=d8 i' hi'
     exact⟨cs',by simp[h]⟩
end
section
variable{T:Tab}{P:Program}{Φ:Fr}{σ:St}{a:Act}{w w':World}{G G':Gh}{K:VK}{o:Oper}{d:Nat}
def Mod.isB(i:Nat):Mod->Prop| .b j _=>j=i| .a _ _=>False
def Mod.isA(k:Nat):Mod->Prop| .b _ _=>False| .a j _=>j=k
theorem jJ(ms:List Mod)(i:Nat):∀σ:St,(∀m∈ms,¬m.isB i)->(σ.apps ms).bx i=σ.bx i:=by
 induction ms with
 |nil=>intro σ _;rfl
 |cons m r ih=>
  intro σ h
  have:σ.apps (m::r)=(m.app σ).apps r:=rfl
  rw[this,ih _ (fun m hm=>h m (List.mem_cons_of_mem _ hm))]
  have:=h m (List.mem_cons_self ..)
  cases m with
  |b j cs=>exact upd_ne _ _ (fun e=>this e.symm)
  |a j en=>rfl
theorem lW(ms:List Mod)(i:Nat):∀σ:St,(∀m∈ms,¬m.isA i)->(σ.apps ms).ar i=σ.ar i:=by
 induction ms with
 |nil=>intro σ _;rfl
 |cons m r ih=>
  intro σ h
  have:σ.apps (m::r)=(m.app σ).apps r:=rfl
  rw[this,ih _ (fun m hm=>h m (List.mem_cons_of_mem _ hm))]
  have:=h m (List.mem_cons_self ..)
  cases m with
  |a j cs=>exact upd_ne _ _ (fun e=>this e.symm)
  |b j en=>rfl
theorem aI2(ms:List Mod)(i:Nat):∀σ σ':St,((∃m∈ms,m.isB i)\/σ.bx i=σ'.bx i)->(σ.apps ms).bx i=(σ'.apps ms).bx i:=by
 induction ms with
 |nil=>intro σ σ' h;exact h.resolve_left (fun⟨m,hm,_⟩=>by cases hm)
 |cons m r ih=>
  intro σ σ' h
  show((m.app σ).apps r).bx i=((m.app σ').apps r).bx i
  apply ih
  rcases h with⟨m',hm',hb⟩|h
  ·rcases List.mem_cons.1 hm' with rfl|hm'
   ·right
    cases m' with
    |b j cs=>cases hb;show upd _ _ _ _=upd _ _ _ _;rw[upd_same,upd_same]
    |a j en=>exact hb.elim
   ·exact .inl ⟨m',hm',hb⟩
  ·right
   cases m with
   |b j cs=>
    show upd _ _ _ _=upd _ _ _ _
    by_cases e:i=j
    ·subst e;rw[upd_same,upd_same]
    ·rw[upd_ne _ _ e,upd_ne _ _ e];exact h
   |a j en=>exact h
theorem aI9(ms:List Mod)(i:Nat):∀σ σ':St,((∃m∈ms,m.isA i)\/σ.ar i=σ'.ar i)->(σ.apps ms).ar i=(σ'.apps ms).ar i:=by
 induction ms with
 |nil=>intro σ σ' h;exact h.resolve_left (fun⟨m,hm,_⟩=>by cases hm)
 |cons m r ih=>
  intro σ σ' h
  show((m.app σ).apps r).ar i=((m.app σ').apps r).ar i
  apply ih
  rcases h with⟨m',hm',hb⟩|h
  ·rcases List.mem_cons.1 hm' with rfl|hm'
   ·right
    cases m' with
    |a j cs=>cases hb;show upd _ _ _ _=upd _ _ _ _;rw[upd_same,upd_same]
    |b j en=>exact hb.elim
   ·exact .inl ⟨m',hm',hb⟩
  ·right
   cases m with
   |a j cs=>
    show upd _ _ _ _=upd _ _ _ _
    by_cases e:i=j
    ·subst e;rw[upd_same,upd_same]
    ·rw[upd_ne _ _ e,upd_ne _ _ e];exact h
   |b j en=>exact h
theorem aN6(ms:List Mod)(i:Nat):∀σ:St,((∃m∈ms,m.isB i)\/σ.bx i≠none)->(σ.apps ms).bx i≠none:=by
 induction ms with
 |nil=>intro σ h;exact h.resolve_left (fun⟨m,hm,_⟩=>by cases hm)
 |cons m r ih=>
  intro σ h
  show((m.app σ).apps r).bx i≠none
  apply ih
  rcases h with⟨m',hm',hb⟩|h
  ·rcases List.mem_cons.1 hm' with rfl|hm'
   ·right
    cases m' with
    |b j cs=>cases hb;show upd _ _ _ _≠none;rw[upd_same];simp
    |a j en=>exact hb.elim
   ·exact .inl ⟨m',hm',hb⟩
  ·right
   cases m with
   |b j cs=>
    show upd _ _ _ _≠none
    by_cases e:i=j
    ·subst e;rw[upd_same];simp
    ·rw[upd_ne _ _ e];exact h
   |a j en=>exact h
theorem aO2(ms:List Mod)(i:Nat):∀σ:St,((∃m∈ms,m.isA i)\/σ.ar i≠none)->(σ.apps ms).ar i≠none:=by
 induction ms with
 |nil=>intro σ h;exact h.resolve_left (fun⟨m,hm,_⟩=>by cases hm)
 |cons m r ih=>
  intro σ h
  show((m.app σ).apps r).ar i≠none
  apply ih
  rcases h with⟨m',hm',hb⟩|h
  ·rcases List.mem_cons.1 hm' with rfl|hm'
   ·right
    cases m' with
    |a j cs=>cases hb;show upd _ _ _ _≠none;rw[upd_same];simp
    |b j en=>exact hb.elim
   ·exact .inl ⟨m',hm',hb⟩
  ·right
   cases m with
   |a j cs=>
    show upd _ _ _ _≠none
    by_cases e:i=j
    ·subst e;rw[upd_same];simp
    ·rw[upd_ne _ _ e];exact h
   |b j en=>exact h
theorem dZ3{ar:Nat->Option AE}{is:List Nat}{x y:V}{k:Nat}(h:aP8 T ar is x y)(hl:linear y=true)(hk:k∈jQ x):∃en,ar k=some en:=by
 have key:wU T ar x y->∃en,ar k=some en:=by
  intro h
  cases y with
  |own e l=>
   cases x with
   |arr k' g=>
    have hkk:k=k':=by simpa [jQ]using hk
    subst hkk
    have h':(match ar k with|some en=>en.gen=g/\en.kind= .own/\en.ty=e/\en.l=l|none=>False):=h
    cases hq:ar k with
    |none=>rw[hq]at h';exact h'.elim
    |some en=>exact⟨en,rfl⟩
   |agg cs=>exact(h:False).elim
   |_=>simp[jQ]at hk
  |ap e l=>
   cases x with
   |arr k' g=>
    have hkk:k=k':=by simpa [jQ]using hk
    subst hkk
    have h':(match ar k with|some en=>en.gen=g/\(en.kind= .own\/en.kind= .ap)/\en.ty=e/\en.l=l|none=>False):=h
    cases hq:ar k with
    |none=>rw[hq]at h';exact h'.elim
    |some en=>exact⟨en,rfl⟩
   |agg cs=>exact(h:False).elim
   |_=>simp[jQ]at hk
  |_=>simp[linear]at hl
 cases y with
 |own e l=>exact key h
 |ap e l=>exact key h
 |_=>simp[linear]at hl
set_option maxHeartbeats 1600000 in
theorem fB8(inv:Inv T Φ σ a w G){f:FuncId}{us:List Value}{xs:List V}(hul:us.length=xs.length)(hrel:∀(i:Nat) v x,us[i]? =some v->xs[i]? =some x->Rv w G v x/\x.ok σ.hasB σ.hasA){ys:List V}{is:List Nat}{bs:List (List V)}{r:V}{bs':List (List V)}
 (hgive:xM T σ.ar is ((xs,ys)::eU σ.bx bs is))(hcok:zA σ.bx ((xs,ys)::eU σ.bx bs is) is bs r=true)(hspec:aU2 T P f ys bs r bs')
 (hk:aX2 σ.bx σ.ar is (ownG ((xs,ys)::eU σ.bx bs is)) d r bs' fun v ms=>K v (appR (aV σ (mF ((xs,ys)::eU σ.bx bs is))) (appR (aX σ (ownG ((xs,ys)::eU σ.bx bs is))) ms))):
 Calls P f us.toArray w fun e w'=>∃v',e= .returned v'/\∃v ms G',K v ms/\Inv T Φ (σ.apps ms) a w' G'/\Rv w' G' v' v/\v.ok (σ.apps ms).hasB (σ.apps ms).hasA:=by
 refine(cS4 inv hul hrel rfl hgive hcok hspec).mono ?_
 have hlens:=hspec.2.1
 clear hspec
 obtain⟨hnd,hdisj,hni,hil,hisb,hblen,hi8,hrlen⟩:=aL0 hcok
 have hbl:bs'.length=bs.length:=by simpa using congrArg List.length hlens
 have hgv:∀(γ:Nat) (g:List V×List V),((xs,ys)::eU σ.bx bs is)[γ]? =some g->g.1.length=g.2.length/\∀(q:Nat) x y,g.1[q]? =some x->g.2[q]? =some y->aP8 T σ.ar is x y:=fun γ g hg=>aB1 (aJ8 hgive γ g hg)
 have gj:∀(j:Nat) (i:Nat) b,is[j]? =some i->bs[j]? =some b->((xs,ys)::eU σ.bx bs is)[j+1]? =some ((σ.bx i).getD [],b):=by
  intro j i b h1 h2
  rw[List.getElem?_cons_succ]
  exact(aR3 hil j _).2 ⟨i,b,h1,h2,rfl⟩
 generalize hgs:(xs,ys)::eU σ.bx bs is=gs at*
 have hoks:∀k∈ownG gs,σ.ar k≠none:=by
  intro k hk hn
  obtain⟨γ,q,g,h1,x,y,h2,h3,h4,h5⟩:=aP0.1 hk
  obtain⟨en,hen⟩:=dZ3 ((hgv γ g h1).2 q x y h2 h3) h4 h5
  rw[hen]at hn;cases hn
 have hposk:∀(j i:Nat) cs (q k g:Nat),is[j]? =some i->σ.bx i=some cs->cs[q]? =some (.arr k g)->k∈ownG gs->PosG gs (j+1) q k:=by
  intro j i cs q k g hj hc hq hk
  have hjb:j<bs.length:=by rw[<-hil];exact(List.getElem?_eq_some_iff.1 hj).1
  have hg:=gj j i bs[j] hj (List.getElem?_eq_getElem hjb)
  rw[hc]at hg
  simp only[Option.getD_some]at hg
  have hlen:=(hgv _ _ hg).1
  have hqb:q<bs[j].length:=by rw[<-hlen];exact(List.getElem?_eq_some_iff.1 hq).1
  refine⟨_,hg,_,bs[j][q],hq,List.getElem?_eq_getElem hqb,?_,by simp[jQ]⟩
  cases hl:linear bs[j][q]with
  |true=>rfl
  |false=>
   exfalso
   exact hdisj k hk (aS8.2 ⟨j+1,_,hg,nP.2 ⟨q,_,_,hq,List.getElem?_eq_getElem hqb,hl,by simp[jQ]⟩⟩)
 rintro e w1 ⟨v,G1,G2,rfl,hres,hbx1,inv2,hpend,hkx,hβ2,har2,hav⟩
 refine⟨v,rfl,?_⟩
 generalize hok:ownG gs=ok at*
 generalize hvk:mF gs=vk at*
 generalize hσ2:σ.apps (aV σ vk++aX σ ok++oM σ.bx is)=σ2 at*
 have hbx2:∀i,σ2.bx i=if i∈is then some (((σ.bx i).getD []).map fun _=>V.bot)else σ.bx i:=fun i=>by
  rw[<-hσ2,dO,bX5,aR5 σ _ (fun m hm=>by
   rcases List.mem_append.1 hm with hm|hm
   ·exact bF7 σ vk m hm
   ·exact aS3 σ ok m hm)]
 have hdead:∀k en,k∈ok->σ.ar k=some en->∀g',σ2.hasA k g'->g'<=en.gen:=by
  rintro k en hk hen g' ⟨en2,q1,q2⟩
  rw[har2,if_pos hk,hen]at q1
  cases q1
  exact q2
 have hrenF:∀i',Lent bs.length i'->∃(j i:Nat),i'=100000+j/\is[j]? =some i/\renF is i'=i:=by
  rintro i' ⟨h1,h2⟩
  have hj:i'-100000<is.length:=by omega
  refine⟨i'-100000,is[i'-100000],by omega,List.getElem?_eq_getElem hj,?_⟩
  show nthD is (i'-100000)=_
  unfold nthD
  rw[uN,List.getElem?_eq_getElem hj]
 have hβ0:∀i',Lent bs.length i'->G2.β (renF is i')=G1.β i'/\σ2.hasB (renF is i'):=by
  intro i' hi'
  obtain⟨j,i,rfl,h2,h3⟩:=hrenF i' hi'
  rw[h3]
  refine⟨hβ2 j i h2,?_⟩
  unfold St.hasB
  rw[hbx2,if_pos (List.mem_of_getElem? h2)]
  exact⟨_,rfl⟩
 have hnone:is=[]->bs'=[] :=fun h=>by
  have e1:bs'.length=0:=by rw[hbl,<-hil,h];rfl
  exact List.length_eq_zero_iff.1 e1
 have common:∀(rs olds:List V),((∀(q k g:Nat),olds[q]? =some (.arr k g)->False)\/(is=[]/\olds.length=1))->∀(us:List Value),us.length=rs.length->rs.length<1000->(∀(i:Nat) u y,us[i]? =some u->rs[i]? =some y->RbB T w1 G1 bs.length i u y)->∀(K':List V->List Mod->Prop),
  (oJ σ.ar is ok rs olds d fun vs ms=>aB3 σ.bx σ.ar is ok bs' is (d+1000000) fun ns=>K' vs (appR ms ns))->
  ∃vs ms G',K' vs ms/\Inv T Φ (σ2.apps ms) a w1 G'/\vs.length=rs.length/\(∀(i:Nat) u v,us[i]? =some u->vs[i]? =some v->Rv w1 G' u v/\v.ok (σ2.apps ms).hasB (σ2.apps ms).hasA)/\∀i∈is,∃cs,Mod.b i cs∈ms:=by
  intro rs olds hbot us hul hr1 hrb K' hrec
  obtain⟨vs,ms,G3,b1,b2,b3,b4,b5,b6,b7,b8,b9,b10,b11⟩:=aU0 (Gx:=G1) (σ0:=σ) (is:=is) (ok:=ok) (n:=bs.length) rs olds d 0 σ2 G2 us _ inv2 hul
   (fun q _ hn=>by rw[har2,hn];simp)
   (fun q k g en hq hk hen g' hh=>hdead k en hk hen g' hh) (fun q q' k g g' hq hq' _=>by
    rcases hbot with hbot|⟨_,hbot⟩
    ·exact(hbot q k g hq).elim
    ·have h1:=(List.getElem?_eq_some_iff.1 hq).1
     have h2:=(List.getElem?_eq_some_iff.1 hq').1
     omega)
   (fun i u y hu hy=>by rw[Nat.zero_add];exact hrb i u y hu hy) hkx hβ0 (fun i b _ hb=>hpend _ b hb) hrec
  obtain⟨ns,G',d1,d2,d3,d4,d5,d6,d7,d8⟩:=cI1 (Gx:=G1) (σ0:=σ) (is:=is) (ok:=ok) (n:=bs.length) hoks bs' is (d+1000000) 100000 (σ2.apps ms) G3 _ b2
   (fun j b i hb hi=>by
    obtain⟨cs,hcs⟩:=hisb i (List.mem_of_getElem? hi)
    obtain⟨p1,c,t,p2,p3,p4⟩:=hbx1 j b hb
    have hj:j<bs.length:=by rw[<-hbl];exact(List.getElem?_eq_some_iff.1 hb).1
    refine⟨cs,_,c,t,hcs,by rw[b10,hbx2,if_pos (List.mem_of_getElem? hi)],by rw[b5,hβ2 j i hi];exact p2,p3,?_,fun q v y hv hy=>?_⟩
    ·have e1:(bs'.map List.length)[j]? =some b.length:=by rw[List.getElem?_map,hb];rfl
     rw[hlens]at e1
     have e2:(bs.map List.length)[j]? =some bs[j].length:=by simp[hj]
     rw[e2]at e1
     have:=hblen bs[j] (List.getElem_mem hj)
     rw[Option.some.inj e1]at this
     exact this
    ·have:=p4 q v y hv hy
     rw[hbl]at this
     rwa [show 100000*(j+1)+q=100000+100000*j+q by omega]at this)
   (fun j b hb q hq hn=>by
    rcases hbot with hbot|⟨hbot,_⟩
    ·rw[b11 _ (fun q' hq' _ e=>by omega) (fun q' g' hq'=>(hbot q' _ g' hq').elim),har2,hn]
     simp
    ·rw[hnone hbot]at hb;cases hb)
   (fun j i cs q k g en hj hc hq hk hen g' hh=>by
    obtain⟨en',h1,h2⟩:=hh
    rcases hbot with hbot|⟨hbot,_⟩
    ·rw[b11 k (fun q' _ hn e=>by rw[<-e,hen]at hn;cases hn) (fun q' g' hq'=>(hbot q' _ g' hq').elim)]at h1
     exact hdead k en hk hen g' ⟨en',h1,h2⟩
    ·rw[hbot]at hj;cases hj)
   (fun j j' i i' cs cs' q q' k g g' hj hj' hc hc' hq hq' hk=>by
    have:=aA3 (by rw[hok];exact hnd) (hposk j i cs q k g hj hc hq hk) (hposk j' i' cs' q' k g' hj' hc' hq' hk)
    omega)
   ⟨fun b hb=>(b7 b (by rw[hkx.fz b hb];simp)).trans (hkx.fz b hb),fun _ _=>rfl⟩
   (fun i' hi'=>⟨by rw[b5];exact(hβ0 i' hi').1,by obtain⟨x,hx⟩:=(hβ0 i' hi').2;exact⟨x,by rw[b10];exact hx⟩⟩)
   (fun j b hb q blk hq hO=>by
    have:=hpend _ blk hO
    refine⟨?_,this.2⟩
    rw[b8 blk (fun i0 hi0=>by rw[hO];intro e;have:=Tag.ar.inj e;omega)]
    exact this.1) b1
  refine⟨vs,appR ms ns,G',d1,by rw[bT,dO];exact d2,b3,fun i u v hu hv=>?_,fun i hi=>?_⟩
  ·obtain⟨q1,q2⟩:=b4 i u v hu hv
   rw[bT,dO]
   have hkp:Keep w1 w1 G3 G':=⟨fun b hb=>(d5 b (by rw[hb];simp)).trans hb,fun _ _=>rfl⟩
   exact⟨q1.keep hkp q2 (fun i _=>by rw[d3]) d4,V.ok.imp d7 d6 _ q2⟩
  ·obtain⟨cs,h⟩:=d8 i hi
   exact⟨cs,by rw[bT];simp[h]⟩
 have hstate:∀ms:List Mod,(∀i∈is,∃cs,Mod.b i cs∈ms)->σ.apps (appR (aV σ vk) (appR (aX σ ok) ms))=σ2.apps ms:=by
  intro ms hms
  have e1:σ.apps (appR (aV σ vk) (appR (aX σ ok) ms))=(σ.apps (aV σ vk++aX σ ok)).apps ms:=by rw[bT,bT,<-List.append_assoc];exact dO _ _ _
  have e2:σ2=(σ.apps (aV σ vk++aX σ ok)).apps (oM σ.bx is):=hσ2.symm.trans (dO _ _ _)
  rw[e1,e2]
  generalize σ.apps (aV σ vk++aX σ ok)=τ
  have h1:(τ.apps ms).env=((τ.apps (oM σ.bx is)).apps ms).env:=by rw[vM,vM,vM]
  have h2:(τ.apps ms).bx=((τ.apps (oM σ.bx is)).apps ms).bx:=by
   funext i
   refine aI2 ms i _ _ ?_
   by_cases hi:i∈is
   ·obtain⟨cs,h⟩:=hms i hi
    exact .inl ⟨_,h,rfl⟩
   ·rw[bX5,if_neg hi];exact .inr rfl
  have h3:(τ.apps ms).ar=((τ.apps (oM σ.bx is)).apps ms).ar:=by
   funext k
   exact aI9 ms k _ _ (.inr (by rw[dI5]))
  generalize τ.apps ms=s1 at*
  generalize (τ.apps (oM σ.bx is)).apps ms=s2 at*
  cases s1;cases s2
  simp only at h1 h2 h3
  subst h1 h2 h3
  rfl
 unfold aX2 at hk
 split at hk
 ·rename_i rs
  obtain⟨vs',e1,e2,e3⟩:∃vs:Array Value,v= .tuple vs/\vs.size=rs.length/\∀(j:Nat) u y,vs[j]? =some u->rs[j]? =some y->RbB T w1 G1 bs.length j u y:=hres
  rw[dU]at hk
  obtain⟨vs,ms,G',b1,b2,b3,b4,b5⟩:=common rs (rs.map fun _=> .bot) (.inl (fun q k g hq=>by
   rw[List.getElem?_map]at hq
   cases hy:rs[q]? with
   |none=>rw[hy]at hq;cases hq
   |some y=>rw[hy]at hq;simp at hq)) vs'.toList (by simpa using e2) (hrlen rs rfl) (fun i u y hu hy=>e3 i u y (by simpa using hu) hy) (fun vs ms=>K (.tup vs) (appR (aV σ vk) (appR (aX σ ok) ms))) hk
  refine⟨.tup vs,_,G',b1,by rw[hstate ms b5];exact b2,?_,?_⟩
  ·rw[e1]
   refine .tup vs' vs (by rw[e2,b3]) fun i c x hc hx=>(b4 i c x (by simpa using hc) hx).1
  ·rw[hstate ms b5]
   simp only[V.ok]
   refine aH.2 fun x hx=>?_
   obtain⟨i,hi⟩:=List.getElem?_of_mem hx
   have hlt2:i<vs'.toList.length:=by rw[Array.length_toList,e2,<-b3];exact(List.getElem?_eq_some_iff.1 hi).1
   exact(b4 i _ x (List.getElem?_eq_getElem hlt2) hi).2
 ·rename_i hnt
  have hres':RbB T w1 G1 bs.length 0 v r:=by
   unfold RrB at hres
   split at hres
   ·exact(hnt _ rfl).elim
   ·exact hres
  have hold:(∀(q k g:Nat),[dB5 is ok][q]? =some (.arr k g)->False)\/(is=[]/\ [dB5 is ok].length=1):=by
   cases is with
   |nil=>exact .inr ⟨rfl,rfl⟩
   |cons i ir=>
    refine .inl fun q k g hq=>?_
    cases q with
    |zero=>cases hq
    |succ q=>simp at hq
  obtain⟨vs,ms,G',b1,b2,b3,b4,b5⟩:=common [r] [dB5 is ok] hold [v] rfl (by simp) (fun i u y hu hy=>by
   cases i with
   |zero=>simp at hu hy;subst hu;subst hy;exact hres'
   |succ i=>simp at hu) (fun vs ms=>match vs with|v::_=>K v (appR (aV σ vk) (appR (aX σ ok) ms))| [] =>False) (by
   refine cQ2 (fun vs ms h=>?_) hk
   cases vs with
   |nil=>exact(h:False).elim
   |cons v r=>exact h)
  match vs,b3 with
  | [x],_=>
   obtain⟨q1,q2⟩:=b4 0 v x rfl rfl
   exact⟨x,_,G',b1,by rw[hstate ms b5];exact b2,q1,by rw[hstate ms b5];exact q2⟩
theorem cP8(inv:Inv T Φ σ a w G){light:Md}{f:FuncId}{us:List Value}{xs:List V}(hul:us.length=xs.length)(hrel:∀(i:Nat) v x,us[i]? =some v->xs[i]? =some x->Rv w G v x/\x.ok σ.hasB σ.hasA)(h:kY T P light σ d f xs K):
 callable P f=true/\Calls P f us.toArray w fun e w'=>∃v',e= .returned v'/\∃v ms G',K v ms/\Inv T Φ (σ.apps ms) a w' G'/\Rv w' G' v' v/\v.ok (σ.apps ms).hasB (σ.apps ms).hasA:=by
 rcases h.out with⟨ys,r,lend,h1,h2,h3,h4⟩|⟨_,ys,r,j,k,g,e,l,l',h1,h2,h3,h4,h5,h6,h7⟩|⟨ys,is,bs,r,bs',_,h1,h2,h3,h4⟩
 ·exact⟨h3.1,eJ8 inv hul hrel h1 h2 h3 h4⟩
 ·exact⟨h3.1,eO2 inv hul hrel h1 h2 h3 h4 h5 h6 h7⟩
 ·exact⟨h3.1,fB8 inv hul hrel h1 h2 h3 h4⟩
theorem bF2(inv:Inv T Φ σ a w G){light:Md}{f:FuncId}(as:List Operand)(h:kY T P light σ d f (as.map σ.ev) K):
 callable P f=true/\Calls P f (as.map a.eval).toArray w fun e w'=>∃v',e= .returned v'/\∃v ms G',K v ms/\Inv T Φ (σ.apps ms) a w' G'/\Rv w' G' v' v/\v.ok (σ.apps ms).hasB (σ.apps ms).hasA:=by
 refine cP8 inv (by simp) (fun i v x hv hx=>?_) h
 have hi:i<as.length:=by
  have:=(List.getElem?_eq_some_iff.1 hv).1
  simpa using this
 have e1:v=a.eval as[i] :=by simpa [hi]using hv.symm
 have e2:x=σ.ev as[i] :=by simpa [hi]using hx.symm
 rw[e1,e2]
 exact inv.ev as[i]
end
theorem dE7(i:Nat)(cs xs:List V):(V.agg xs).frz i cs= .agg (xs.map (V.frz i cs)):=by
 have h:∀l:List V,(V.agg l).frz i cs= .agg (l.map (V.frz i cs)):=by
  intro l
  induction l with
  |nil=>rfl
  |cons x r ih=>
   have e1:(V.agg (x::r)).frz i cs=(match(V.agg r).frz i cs with| .agg l=> .agg (x.frz i cs::l)|y=>y):=rfl
   rw[e1,ih];rfl
 exact h xs
theorem dB9(i:Nat)(cs xs:List V):(V.tup xs).frz i cs= .tup (xs.map (V.frz i cs)):=by
 have h:∀l:List V,(V.tup l).frz i cs= .tup (l.map (V.frz i cs)):=by
  intro l
  induction l with
  |nil=>rfl
  |cons x r ih=>
   have e1:(V.tup (x::r)).frz i cs=(match(V.tup r).frz i cs with| .tup l=> .tup (x.frz i cs::l)|y=>y):=rfl
   rw[e1,ih];rfl
 exact h xs
theorem eK0(i:Nat)(cs:List V)(g:FuncId)(xs:List V):(V.fn g xs).frz i cs= .fn g (xs.map (V.frz i cs)):=by
 have h:∀l:List V,(V.fn g l).frz i cs= .fn g (l.map (V.frz i cs)):=by
  intro l
  induction l with
  |nil=>rfl
  |cons x r ih=>
   have e1:(V.fn g (x::r)).frz i cs=(match(V.fn g r).frz i cs with| .fn g l=> .fn g (x.frz i cs::l)|y=>y):=rfl
   rw[e1,ih];rfl
 exact h xs
theorem zG(i off:Nat)(cs:List V):(V.box i off).frz i cs= .fp (cs.drop off):=by
 show cond (Nat.beq i i) (V.fp (jX cs off)) (.box i off)=_
 rw[Nat.beq_refl,cond_true,lQ]
theorem bI5{i j off:Nat}(cs:List V)(h:j≠i):(V.box j off).frz i cs= .box j off:=by
 show cond (Nat.beq j i) (V.fp (jX cs off)) (.box j off)=_
 have:Nat.beq j i=false:=by rw[<-Bool.not_eq_true,Nat.beq_eq];exact h
 rw[this,cond_false]
section
variable{T:Tab}{P:Program}{Φ:Fr}{σ:St}{a:Act}{w:World}{G:Gh}
mutual
theorem V.ok.frz{p p':Nat->Prop}{q:Nat->Nat->Prop}{i:Nat}{cs:List V}(hp:∀j,p j->j≠i->p' j)(hcs:bM cs):(x:V)->x.ok p q->(x.frz i cs).ok p' q
 | .bot,_=>by show V.ok _ _ .bot;simp only[V.ok]
 | .lit u,_=>by show V.ok _ _ (.lit u);simp only[V.ok]
 | .agg l,h=>by
  rw[dE7]
  simp only[V.ok]at h⊢
  exact V.okL.frz hp hcs l h
 | .tup l,h=>by
  rw[dB9]
  simp only[V.ok]at h⊢
  exact V.okL.frz hp hcs l h
 | .sl l,h=>by show V.ok _ _ (.sl l);simp only[V.ok]at h⊢;exact h
 | .cap l,h=>by show V.ok _ _ (.cap l);simp only[V.ok]at h⊢;exact h
 | .own e l,h=>by show V.ok _ _ (.own e l);simp only[V.ok]at h⊢;exact h
 | .ap e l,h=>by show V.ok _ _ (.ap e l);simp only[V.ok]at h⊢;exact h
 | .box j off,h=>by
  by_cases e:j=i
  ·subst e
   rw[zG]
   simp only[V.ok]
   exact aH.2 fun y hy=>aH.1 hcs y (List.mem_of_mem_drop hy)
  ·rw[bI5 cs e]
   simp only[V.ok]at h⊢
   exact hp j h e
 | .arr k g,h=>by show V.ok _ _ (.arr k g);simp only[V.ok]at h⊢;exact h
 | .fp l,h=>by show V.ok _ _ (.fp l);simp only[V.ok]at h⊢;exact h
 | .ae k g z i' o,h=>by show V.ok _ _ (.ae k g z i' o);simp only[V.ok]at h⊢;exact h
 | .fn g l,h=>by
  rw[eK0]
  simp only[V.ok]at h⊢
  exact V.okL.frz hp hcs l h
theorem V.okL.frz{p p':Nat->Prop}{q:Nat->Nat->Prop}{i:Nat}{cs:List V}(hp:∀j,p j->j≠i->p' j)(hcs:bM cs):(l:List V)->V.okL p q l->V.okL p' q (l.map (V.frz i cs))
 | [],_=>by simp only[List.map_nil,V.okL]
 |x::r,h=>by
  simp only[List.map_cons,V.okL]at h⊢
  exact⟨V.ok.frz hp hcs x h.1,V.okL.frz hp hcs r h.2⟩
end
theorem Rv.frz{i:Nat}{cs:List V}{c:Array Value}{t:TypeId}(hw:w.heap[G.β i]? =some (.cells c t (0,0)))(hc:RvL w G c.toList cs)(hcs:bM cs)(hO:G.O (G.β i)= .bx i){v:Value}{x:V}(h:Rv w G v x):
 ∀ {p:Nat->Prop} {q:Nat->Nat->Prop},x.ok p q->Rv w {G with O:=upd G.O (G.β i) .fz} v (x.frz i cs):=by
 have hkp:Keep w w G {G with O:=upd G.O (G.β i) .fz}:=⟨fun b hb=>by
  show upd G.O _ _ b=_
  by_cases e:b=G.β i
  ·subst e;rw[upd_same]
  ·rw[upd_ne _ _ e];exact hb,fun _ _=>rfl⟩
 induction h with
 |bot v=>intros;exact .bot v
 |lit u h=>intros;exact .lit u h
 |agg vs xs hl ho _ ih=>
  intro p q hok
  simp only[V.ok]at hok
  rw[dE7]
  refine .agg vs _ (by simpa using hl) ho fun j c x hc hx=>?_
  rw[List.getElem?_map]at hx
  cases hy:xs[j]? with
  |none=>rw[hy]at hx;cases hx
  |some y=>
   rw[hy]at hx
   simp only[Option.map_some,Option.some.injEq]at hx
   subst hx
   exact ih j c y hc hy (aH.1 hok y (List.mem_of_getElem? hy))
 |tup vs xs hl _ ih=>
  intro p q hok
  simp only[V.ok]at hok
  rw[dB9]
  refine .tup vs _ (by simpa using hl) fun j c x hc hx=>?_
  rw[List.getElem?_map]at hx
  cases hy:xs[j]? with
  |none=>rw[hy]at hx;cases hx
  |some y=>
   rw[hy]at hx
   simp only[Option.map_some,Option.some.injEq]at hx
   subst hx
   exact ih j c y hc hy (aH.1 hok y (List.mem_of_getElem? hy))
 |slN=>intros;exact .slN
 |slS a c l sz cc h1 h2 h3 h4 h5 h6 _=>
  intro p q hok
  exact(Rv.slS a c l sz cc h1 h2 h3 h4 h5 h6).aW hkp (by simp only[V.pure,V.ok]at hok⊢;exact hok)
 |capN=>intros;exact .capN
 |capS a l sz cc h2 h3 h4 h5 h6 _=>
  intro p q hok
  exact(Rv.capS a l sz cc h2 h3 h4 h5 h6).aW hkp (by simp only[V.pure,V.ok]at hok⊢;exact hok)
 |box j off=>
  intro p q hok
  by_cases e:j=i
  ·subst e
   rw[zG]
   have hh:=(RvL.here (n:=c.toList.length) hw (by rw[List.take_length];exact hc)).out
   obtain⟨cc,q1,q2⟩:=hh
   refine .fp ⟨G.β j,off,none⟩ _ (fun k=>cc (off+k)) (fun _=>by show upd G.O _ _ (G.β j)=_;rw[upd_same]) (fun k y hy=>?_) (fun k y hy=>?_)
   ·rw[List.getElem?_drop]at hy
    have:=q1 (off+k) y hy
    rw[rY]at this⊢
    rw[Nat.zero_add]at this
    exact this
   ·rw[List.getElem?_drop]at hy
    exact(q2 _ y hy).aW hkp (aH.1 hcs y (List.mem_of_getElem? hy))
  ·rw[bI5 cs e]
   exact Rv.box (G:={G with O:=upd G.O (G.β i) .fz}) j off
 |arr k g h=>
  intro p q hok
  exact Rv.arr (G:={G with O:=upd G.O (G.β i) .fz}) k g h
 |fp a l cc h1 h2 h3 _=>
  intro p q hok
  exact(Rv.fp a l cc h1 h2 h3).aW hkp (by simp only[V.pure,V.ok]at hok⊢;exact hok)
 |ae k g sz j off a n c h=>
  intro p q hok
  exact Rv.ae (G:={G with O:=upd G.O (G.β i) .fz}) k g sz j off a n c h
 |fn g lb caps hl _ ih=>
  intro p q hok
  simp only[V.ok]at hok
  rw[eK0]
  refine .fn g lb _ (by simpa using hl) fun j c x hc hx=>?_
  rw[List.getElem?_map]at hx
  cases hy:caps[j]? with
  |none=>rw[hy]at hx;cases hx
  |some y=>
   rw[hy]at hx
   simp only[Option.map_some,Option.some.injEq]at hx
   subst hx
   exact ih j c y hc hy (aH.1 hok y (List.mem_of_getElem? hy))
theorem bP0{i:Nat}{cs:List V}{bx:Nat->Option (List V)}{j:Nat}{l:List V}(h:frzB i cs bx j=some l):j≠i/\∃l0,bx j=some l0/\l=l0.map (V.frz i cs):=by
 unfold frzB at h
 cases hb:Nat.beq j i with
 |true=>rw[hb]at h;cases h
 |false=>
  rw[hb,cond_false]at h
  refine⟨(fun e=>by subst e;rw[Nat.beq_refl]at hb;cases hb),?_⟩
  split at h
  ·cases h
  ·rename_i l0 hl0
   cases h
   exact⟨l0,hl0,by rw[dU]⟩
theorem dE5{i:Nat}{cs:List V}{bx:Nat->Option (List V)}{j:Nat}{l0:List V}(hj:j≠i)(h:bx j=some l0):frzB i cs bx j=some (l0.map (V.frz i cs)):=by
 unfold frzB
 have:Nat.beq j i=false:=by rw[<-Bool.not_eq_true,Nat.beq_eq];exact hj
 rw[this,cond_false,h]
 simp only[dU]
theorem Inv.bV0(inv:Inv T Φ σ a w G){i:Nat}{cs:List V}(hi:σ.bx i=some cs)(hil:i<100000)(hcs:bM cs):
 Inv T Φ ⟨fun s=>(σ.env s).frz i cs,frzB i cs σ.bx,σ.ar⟩ a w {G with O:=upd G.O (G.β i) .fz}/\Keep w w G {G with O:=upd G.O (G.β i) .fz}:=by
 obtain⟨c,t,hw,hc,hO⟩:=inv.box i cs hi
 have hkp:Keep w w G {G with O:=upd G.O (G.β i) .fz}:=⟨fun b hb=>by
  show upd G.O _ _ b=_
  by_cases e:b=G.β i
  ·subst e;rw[upd_same]
  ·rw[upd_ne _ _ e];exact hb,fun _ _=>rfl⟩
 have hB:∀j,σ.hasB j->j≠i->St.hasB ⟨fun s=>(σ.env s).frz i cs,frzB i cs σ.bx,σ.ar⟩ j:=fun j ⟨l,hl⟩ hj=>⟨_,dE5 hj hl⟩
 have hO':∀b,upd G.O (G.β i) Tag.fz b=G.O b\/(b=G.β i/\upd G.O (G.β i) Tag.fz b= .fz):=fun b=>by
  by_cases e:b=G.β i
  ·subst e;exact .inr ⟨rfl,upd_same _ _ _⟩
  ·exact .inl (upd_ne _ _ e)
 refine⟨{nd:=inv.nd,kp:=inv.kp,sz:=inv.sz,env:= ?_,wfE:= ?_,box:= ?_,wfB:= ?_,arr:= ?_,wfA:=inv.wfA,tag:= ?_,mineB:= ?_,mineA:= ?_,fzm:= ?_,F0:= ?_,lay:=inv.lay,frame:=inv.frame,size:=inv.size,os:=inv.os,tape:=inv.tape,output:=inv.output,args:=inv.args,argb:=fun j b h=>⟨(inv.argb j b h).1,(inv.argb j b h).2.1,_,dE5 (fun e=>by have:=(inv.argb j b h).2.1.1;omega) (inv.argb j b h).2.2.choose_spec⟩},hkp⟩
 ·intro s;exact(inv.env s).frz hw hc hcs hO (inv.wfE s)
 ·intro s;exact V.ok.frz hB hcs _ (inv.wfE s)
 ·intro j l hl
  obtain⟨hj,l0,h0,rfl⟩:=bP0 hl
  obtain⟨c',t',q1,q2,q3⟩:=inv.box j l0 h0
  refine⟨c',t',q1,⟨by simpa using q2.len,q2.one,fun k v x hv hx=>?_⟩,?_⟩
  ·rw[List.getElem?_map]at hx
   cases hy:l0[k]? with
   |none=>rw[hy]at hx;cases hx
   |some y=>
    rw[hy]at hx
    simp only[Option.map_some,Option.some.injEq]at hx
    subst hx
    exact(q2.rel k v y hv hy).frz hw hc hcs hO (aH.1 (inv.wfB j l0 h0) y (List.mem_of_getElem? hy))
  ·show upd G.O _ _ (G.β j)=_
   rw[upd_ne _ _ (fun e=>by rw[e,hO]at q3;cases q3;exact hj rfl)]
   exact q3
 ·intro j l hl
  obtain⟨hj,l0,h0,rfl⟩:=bP0 hl
  exact V.okL.frz hB hcs l0 (inv.wfB j l0 h0)
 ·intro k en hk
  exact(inv.arr k en hk).keep hkp (inv.wfA k en hk) rfl (fun b hb=>⟨by
   show upd G.O _ _ b=_
   rw[upd_ne _ _ (fun e=>by rw[e,hO]at hb;cases hb)];exact hb,rfl⟩)
 ·intro b hb
  rcases hO' b with h|⟨h,_⟩
  ·exact inv.tag b (by rw[<-h];exact hb)
  ·subst h;exact inv.tag _ (by rw[hO];simp)
 ·intro b j hb
  rcases hO' b with h|⟨_,h⟩
  ·exact inv.mineB b j (h▸hb)
  ·have hb':upd G.O (G.β i) Tag.fz b= .bx j:=hb
   rw[h]at hb';cases hb'
 ·intro b k hb
  rcases hO' b with h|⟨_,h⟩
  ·exact inv.mineA b k (h▸hb)
  ·have hb':upd G.O (G.β i) Tag.fz b= .ar k:=hb
   rw[h]at hb';cases hb'
 ·intro b hb
  rcases hO' b with h|⟨h,_⟩
  ·exact inv.fzm b (h▸hb)
  ·subst h;exact .inr (inv.mineB _ i hO)
 ·intro b hb
  exact hkp.fz b (inv.F0 b hb)
end
end Go.Ab
