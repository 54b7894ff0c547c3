/- Lemmas. -/
import Derived.Test.YtcmgfjaiegpddaaGreatA4
set_option linter.all false
noncomputable section
namespace Go.Ab
section
variable{T:Tab}{P:Program}{Φ:Fr}{σ:St}{a:Act}{w w':World}{G G':Gh}{K:VK}{o:Oper}{d:Nat}
theorem pM{k:Nat}{l:List Nat}:memR k l=true↔k∈l:=by
 induction l<;>simp_all [Nat.beq,QJ,memR]
def Inv.freeze(inv:Inv T Φ σ a w G){k:Nat}{en:AE}(f:σ.ar k=some en)(n:en.kind= .own\/en.kind= .ap):
 ∃O',Inv T Φ (σ.apps [.a k ⟨en.gen, .frz,en.ty,en.l⟩]) a w {G with O:=O'}/\(∀b,O' b= .fz↔(G.O b= .fz\/G.O b= .ar k))/\(∀b,G.O b≠ .ar k->O' b=G.O b):=by
 let O':Nat->Tag:=λb=>match G.O b with| .ar j=>if j=k then .fz else .ar j|t=>t
 have e:∀b,G.O b≠ .ar k->O' b=G.O b:=by
  grind
 have r:∀b,G.O b= .ar k->O' b= .fz:=by
  grind
 have i:Keep w w G {G with O:=O'}:=⟨λb hb=>(e b Aw).trans hb,λ_ _=>rfl⟩;have hp:=inv.wfA k en f;refine⟨O',?_,?_,e⟩
 ·refine inv.zU (w':=w) (k:=k) (en:=⟨en.gen, .frz,en.ty,en.l⟩) (av':=G.av) (O':=O') (λg ⟨E,q,s⟩=>by rw[f]at q;cases q;exact s) (λ_ _ _=>rfl) hp ?_ (λb _ hb=>e b hb) ?_ (λ_ _ _=>rfl) (Po _) rfl rfl rfl
  ·have c:=inv.arr k en f
   show Rv w {G with O:=O'} (G.av k en.gen) (.sl en.l)
   have own:∀ {ty},gJ T w G k (G.av k en.gen) ty en.l->Rv w {G with O:=O'} (G.av k en.gen) (.sl en.l):=by
    intro ty m;rcases m with⟨u,v⟩|⟨b,cap,cur,u,v,z,A,B,F,C,D⟩;grind [bA2];obtain⟨cc,q,s⟩:=(D.here z).out;rw[u];refine .slS _ cap en.l _ cc A B (λ_=>r b v) C q (λj y x=>(s j y x).aW i (dF hp x))
   unfold gW at c;rcases n with n|n
   ·grind
   ·rw[n]at c
    rcases c.2 with c|c
    ·exact own c
    ·exact c.1.wK.aW i Aq
  ·grind
 ·grind
theorem bA7(inv:Inv T Φ σ a w G)(e:Keep w w G G'){v:Value}{x y:V}(h:yH σ.ar x y)(hv:Rv w G v x)(hok:x.ok σ.hasB σ.hasA)(f:∀k∈akey x,∀b,G.O b= .ar k->G'.O b= .fz):Rv w G' v y/\y.pure:=by
 have sl:∀ {u:Value} {l:List V},bM l->Rv w G u (.sl l)->Rv w G' u (.sl l)/\(V.sl l).pure:=λhp h=>⟨h.aW e Aq,Aq⟩;unfold yH at h;split at h;rename_i l;split at h;grind [V.ok];subst h;simp only[V.ok]at hok;exact sl hok hv.wK;subst h;rw[hv.bH];exact⟨.slN,by simp only[V.pure,V.ok,V.okL]⟩;rename_i k g;split at h;rename_i en i;obtain⟨D,L,rfl⟩:=h;subst D;have hp:=inv.wfA k en i;have c:=inv.arr k en i;rw[hv.oQ];have E:=f k (by simp[akey])
 have own:∀ {ty},gJ T w G k (G.av k en.gen) ty en.l->Rv w G' (G.av k en.gen) (.sl en.l):=by
  intro ty m;rcases m with⟨n,r⟩|⟨b,cap,cur,n,r,t,z,A,J,B,C⟩;grind [bA2];obtain⟨cc,H,I⟩:=(C.here t).out;rw[n];exact .slS _ cap en.l _ cc z A (λ_=>E b r) B H (λj y s=>(I j y s).aW e (dF hp s))
 refine⟨?_,Aq⟩;unfold gW at c;split at c;simp_all;exact(sl hp c).1;exact own c.2;rcases c.2 with q|q;exact own q;exact(sl hp q.1.wK).1;exact h.elim;exact h.elim;rename_i l;split at h;subst h;simp only[V.ok]at hok;exact⟨hv.aW e BA,BA⟩;subst h;rw[hv.bH];exact⟨.capN,by simp only[V.pure,V.ok,V.okL]⟩;exact h.elim;split at h;subst h;rw[hv.bH];exact⟨.lit _ hv.aZ3,by simp only[V.pure,V.ok]⟩;exact h.elim;split at h;subst h;simp only[V.ok]at hok;exact⟨hv.aW e BA,BA⟩;exact h.elim;split at h;obtain⟨rfl,rfl,F⟩:=h;have hp:=fn_atom_pure F hok;simp only[V.pure,V.ok]at hp;exact⟨hv.aW e Aq,Aq⟩;exact h.elim;exact h.elim
def cW4{ar:Nat->Option AE}:∀ {ys xs:List V},cN9 ar ys xs->xs.length=ys.length/\∀(i:Nat) x y,xs[i]? =some x->ys[i]? =some y->yH ar x y:=by
 intro ys;induction ys with
 |nil=>
  intro xs h;exact MI
 |cons y r e=>
  intro xs h;cases xs with
  |nil=>exact(h:False).elim
  |cons x xr=>
   obtain⟨b,c⟩:yH ar x y/\cN9 ar r xr:=h;grind
def qM{ar:Nat->Option AE}:∀ {ys xs:List V},iQ T ar ys xs->xs.length=ys.length/\∀(i:Nat) x y,xs[i]? =some x->ys[i]? =some y->wU T ar x y:=by
 intro ys;induction ys with
 |nil=>
  intro xs h;exact MI
 |cons y r e=>
  intro xs h;cases xs with
  |nil=>exact(h:False).elim
  |cons x xr=>
   obtain⟨b,c⟩:wU T ar x y/\iQ T ar r xr:=h;grind
theorem dK9(cs:List V):jQ (.agg cs)=cs.flatMap akey:=by
 induction cs with
 |nil=>rfl
 |cons x r b=>
  have:jQ (.agg (x::r))=appR (akey x) (jQ (.agg r)):=rfl;rw[this,bT,b,Qk]
theorem oZ:∀ {ys xs:List V} {k:Nat},k∈bD ys xs↔∃(i:Nat) (x y:V),xs[i]? =some x/\ys[i]? =some y/\linear y=true/\k∈jQ x:=by
 intro ys;induction ys with
 |nil=>
  intro xs k;have:bD [] xs=[] :=rfl;rw[this];simp
 |cons y r j=>
  intro xs k;cases xs with
  |nil=>
   have:bD (y::r) [] =[] :=rfl;rw[this];simp
  |cons x xr=>
   have:bD (y::r) (x::xr)=appR (cond (linear y) (jQ x) []) (bD r xr):=rfl;rw[this,bT,Pv,j];constructor;rintro(h|⟨i,x',l,c,e,f,g⟩);cases b:linear y with
   |true=>rw[b]at h;exact⟨0,x,y,rfl,rfl,b,h⟩
   |false=>rw[b]at h;cases h
   exact⟨i+1,x',l,c,e,f,g⟩;grind
theorem nP:∀ {ys xs:List V} {k:Nat},k∈bK ys xs↔∃(i:Nat) (x y:V),xs[i]? =some x/\ys[i]? =some y/\linear y=false/\k∈jQ x:=by
 intro ys;induction ys with
 |nil=>
  intro xs k;have:bK [] xs=[] :=rfl;rw[this];simp
 |cons y r j=>
  intro xs k;cases xs with
  |nil=>
   have:bK (y::r) [] =[] :=rfl;rw[this];simp
  |cons x xr=>
   have:bK (y::r) (x::xr)=appR (cond (linear y) [] (jQ x)) (bK r xr):=rfl;rw[this,bT,Pv,j];constructor;rintro(h|⟨i,x',l,c,e,f,g⟩);cases b:linear y with
   |true=>rw[b]at h;cases h
   |false=>rw[b]at h;exact⟨0,x,y,rfl,rfl,b,h⟩
   exact⟨i+1,x',l,c,e,f,g⟩;grind
def aJ2(inv:Inv T Φ σ a w G)(s:Keep w w G G'){v:Value}{x y:V}{j:Nat}(h:wU T σ.ar x y)(hv:Rv w G v x)(hok:x.ok σ.hasB σ.hasA)
 (z:linear y=false->∀k∈jQ x,∀b,G.O b= .ar k->G'.O b= .fz)(m:linear y=true->∀k∈jQ x,∀b,G.O b= .ar k->G'.O b= .ar j):Rb T w G' j v y:=by
 have own:∀ {k ty l},bM l->gJ T w G k v ty l->(∀b,G.O b= .ar k->G'.O b= .ar j)->gJ T w G' j v ty l:=by
  intro k ty l hp C B;rcases C with h|⟨b,cap,cur,E,e2,F,H,N,Q,R,S⟩;exact .inl h;refine .inr ⟨b,cap,cur,E,B b e2,F,H,N,Q,R,S.keep s (p:=λ_=>False) (q:=λ_ _=>False) ?_ (λ_ h=>h.elim) (λ_ _ h=>h.elim)⟩;refine aH.2 λu X=>?_;obtain⟨i,hi⟩:=P7 X;exact dF hp hi
 unfold wU at h;split at h
 ·rename_i e l
  split at h
  ·obtain⟨A,rfl⟩:=h
   exact⟨A,BH, .inl ⟨.inl hv.bH,rfl⟩⟩
  ·rename_i k g
   split at h
   ·rename_i en n
    obtain⟨B,r,rfl,rfl⟩:=h;subst B;have f:=inv.arr k en n;unfold gW at f;rw[r]at f;have hp:=inv.wfA k en n;rw[<-hv.oQ]at f;exact⟨f.1,hp,own hp f.2 (m rfl k (by simp[jQ]))⟩
   ·exact h.elim
  ·exact h.elim
 ·rename_i e l
  split at h
  ·obtain⟨A,rfl⟩:=h
   exact⟨A,BH, .inl (.inl ⟨.inl hv.bH,rfl⟩)⟩
  ·obtain⟨A,Y,rfl⟩:=h
   simp only[V.ok]at hok;exact⟨A,hok, .inr ⟨hv.aW s BA,Y⟩⟩
  ·rename_i k g
   split at h
   ·rename_i en n
    obtain⟨B,r,rfl,rfl⟩:=h;subst B;have f:=inv.arr k en n;have hp:=inv.wfA k en n;have J:=m rfl k (by simp[jQ]);unfold gW at f;rw[<-hv.oQ]at f;rcases r with r|r
    ·rw[r]at f
     exact⟨f.1,hp, .inl (own hp f.2 J)⟩
    ·rw[r]at f
     refine⟨f.1,hp,?_⟩;rcases f.2 with q|q
     ·grind
     ·exact .inr ⟨q.1.aW s Aq,q.2⟩
   ·exact h.elim
  ·exact h.elim
 ·rename_i ys
  split at h
  ·rename_i xs
   obtain⟨hl,U⟩:=cW4 h;obtain⟨cs,E,e2,F,H⟩:=hv.zV;simp only[V.ok]at hok
   have t:∀(i:Nat) c y,cs[i]? =some c->ys[i]? =some y->Rv w G' c y/\y.pure:=by
    intro i c y I hy;have hi:i<xs.length:=E5;have D:=Pj hi;exact bA7 inv s (U i _ y D hy) (H i c _ I D) (aH.1 hok _ (Pn D)) (λk r=>z rfl k (by rw[dK9];exact List.mem_flatMap.2 ⟨_,Pn D,r⟩))
   refine⟨?_,?_⟩
   ·simp only[V.pure,V.ok]
    refine aH.2 λy hy=>?_;obtain⟨i,hi⟩:=P7 hy;have L:i<cs.size:=Ej;exact(t i cs[i] y (by simp[L]) hi).2
   ·rw[E]
    exact .agg cs ys (by rw[e2,hl]) F (λi c y I hy=>(t i c y I hy).1)
  ·exact h.elim
 ·rename_i Z h2 h3
  have M:linear y=false:=by
   grind [linear]
  have W:∀k∈akey x,k∈jQ x:=by
   intro k r;cases x<;>simp_all [akey,jQ]
  grind [bA7,Rb]
end
section
variable{T:Tab}{P:Program}{Φ:Fr}{σ:St}{a:Act}{w w':World}{G G':Gh}{K:VK}{o:Oper}{d:Nat}
theorem dO(σ:St)(b ns:List Mod):σ.apps (b++ns)=(σ.apps b).apps ns:=by simp[St.apps,QN]
theorem vM(σ:St)(b:List Mod):(σ.apps b).env=σ.env:=by
 induction b generalizing σ with
 |nil=>rfl
 |cons m r c=>
  have:σ.apps (m::r)=(m.app σ).apps r:=rfl;rw[this,c];cases m<;>rfl
def Inv.eV5(inv:Inv T Φ σ a w G){k gen:Nat}(C:∀g,σ.hasA k g->g<gen){z:AK}(U:z= .own\/z= .ap){u:Value}{e:TypeId}{l:List V}(S:e<T.n e)(hp:bM l){Gx:Gh}{j:Nat}
 (r:gJ T w Gx j u e l\/(z= .ap/\Rv w Gx u (.cap l)/\∀x∈l,x.cells.length=(T.row e).size))(W:Keep w w Gx G)(E:∀b,Gx.O b= .ar j->G.O b= .ext/\Φ.mine b/\b<w.heap.size):
 ∃G',Inv T Φ (σ.apps [.a k ⟨gen,z,e,l⟩]) a w G'/\G'.av k gen=u/\u.oneCell'=true/\(∀b,Gx.O b≠ .ar j->G'.O b=G.O b)/\G'.β=G.β/\(∀c g,σ.hasA c g->G'.av c g=G.av c g):=by
 let av':Nat->Nat->Value:=λc g=>if c=k/\g=gen then u else G.av c g
 have s:av' k gen=u:=Hr
 have m:∀c g,σ.hasA c g->av' c g=G.av c g:=λc g F=>by
  grind
 let O':Nat->Tag:=λb=>match Gx.O b with| .ar i=>if i=j then .ar k else G.O b|_=>G.O b
 have t:∀b,Gx.O b≠ .ar j->O' b=G.O b:=by
  grind
 have B:∀b,Gx.O b= .ar j->O' b= .ar k:=by
  grind
 let f:Gh:={G with av:=av',O:=O'};have v:Keep w w Gx f:=⟨λb hb=>(t b Aw).trans (W.fz b hb),λ_ _=>rfl⟩;refine⟨f,?_,s,?_,t,rfl,m⟩
 ·refine inv.zU (w':=w) (k:=k) (en:=⟨gen,z,e,l⟩) (av':=av') (O':=O') (λg F=>Ri (C g F)) m hp ?_ ?_ ?_ (λ_ _ _=>rfl) (Po _) rfl rfl rfl
  ·have D:gJ T w Gx j u e l->gJ T w f k (f.av k gen) e l:=by
    intro h;have A:f.av k gen=u:=s;rw[A];rcases h with h|⟨b,cap,cur,H,I,J,L,M,N,Q,R⟩
    ·exact .inl h
    ·refine .inr ⟨b,cap,cur,H,B b I,J,L,M,N,Q,R.keep v (p:=λ_=>False) (q:=λ_ _=>False) ?_ (λ_ h=>h.elim) (λ_ _ h=>h.elim)⟩
     refine aH.2 λy X=>?_;obtain⟨i,hi⟩:=P7 X;exact dF hp hi
   unfold gW;rcases r with h|⟨rfl,h,Y⟩
   ·grind
   ·refine⟨S, .inr ⟨?_,Y⟩⟩
    have A:f.av k gen=u:=s;show Rv w f (f.av k gen) _;rw[A];exact h.aW v Aq
  ·grind
  ·grind
 ·rcases r with h|⟨_,h,_⟩
  ·rcases h with⟨h,_⟩|⟨b,cap,cur,h,_⟩
   ·exact aP2 h
   ·rw[h];rfl
  ·rcases h.vP with⟨h,_⟩|⟨Z,sz,cc,h,_⟩<;>(rw[h];rfl)
theorem aR5(σ:St)(b:List Mod)(h:∀m∈b,∃k en,m= .a k en):(σ.apps b).bx=σ.bx:=by
 induction b generalizing σ with
 |nil=>rfl
 |cons m r e=>
  have:σ.apps (m::r)=(m.app σ).apps r:=rfl;rw[this,e _ (λm c=>h m (by simp[c]))];obtain⟨k,en,rfl⟩:=h m Af;rfl
def frzE(en:AE):AE:=match en.kind with| .own=>⟨en.gen, .frz,en.ty,en.l⟩| .ap=>⟨en.gen, .frz,en.ty,en.l⟩| .frz=>en| .dead=>⟨en.gen, .dead,en.ty,[]⟩
def cH2(σ σ':St)(g:List Nat):(∀k,σ'.ar k=σ.ar k\/σ'.ar k=(σ.ar k).map frzE)->∀k,(σ'.apps (aV σ g)).ar k=if k∈g then(σ.ar k).map frzE else σ'.ar k:=by
 induction g generalizing σ' with
 |nil=>intro _ k;simp[aV,St.apps]
 |cons x r m=>
  intro hrel k
  have e:aV σ (x::r)=(match σ.ar x with
   |some en=>match en.kind with
    | .own=>Mod.a x ⟨en.gen, .frz,en.ty,en.l⟩::aV σ r
    | .ap=>Mod.a x ⟨en.gen, .frz,en.ty,en.l⟩::aV σ r
    | .frz=>aV σ r
    | .dead=>match en.l with| [] =>aV σ r|_::_=>Mod.a x ⟨en.gen, .dead,en.ty,[]⟩::aV σ r
   |none=>aV σ r):=rfl
  have skip:(σ.ar x).map frzE=σ.ar x->(σ'.apps (aV σ r)).ar k=if k∈x::r then(σ.ar k).map frzE else σ'.ar k:=by
   grind
  have c:∀b,(σ.ar x).map frzE=some b->(σ'.apps (Mod.a x b::aV σ r)).ar k=if k∈x::r then(σ.ar k).map frzE else σ'.ar k:=by
   intro b hx;have j:σ'.apps (Mod.a x b::aV σ r)=((Mod.a x b).app σ').apps (aV σ r):=rfl;rw[j,m _ (λf=>?_) k];by_cases h1:k∈r;simp[h1];by_cases h2:k=x;subst h2;simp only[h1,Rx,P5,true_or,QM];show upd σ'.ar k _ k=_;rw[upd_same,hx];exact Kw;show upd σ'.ar x _ f=_\/upd σ'.ar x _ f=_;by_cases h2:f=x;subst h2;right;rw[upd_same,hx];rw[upd_ne _ _ h2];exact hrel f
  rw[e];cases hx:σ.ar x with
  |none=>simp only;exact skip (by rw[hx];rfl)
  |some en=>
   simp only;cases hk:en.kind with
   |own=>simp only;exact c _ EZ
   |ap=>simp only;exact c _ EZ
   |frz=>simp only;exact skip EZ
   |dead=>
    simp only;cases i:en.l with
    |nil=>exact skip (by rw[hx];obtain⟨n,q,t,s⟩:=en;simp only at hk i;subst hk i;rfl)
    |cons y ys=>exact c _ EZ
theorem bF7(σ:St)(e:List Nat):∀m∈aV σ e,∃k en,m= .a k en:=by
 induction e with
 |nil=>intro m c;cases c
 |cons x r f=>
  intro m c
  have b:aV σ (x::r)=(match σ.ar x with
   |some en=>match en.kind with
    | .own=>Mod.a x ⟨en.gen, .frz,en.ty,en.l⟩::aV σ r
    | .ap=>Mod.a x ⟨en.gen, .frz,en.ty,en.l⟩::aV σ r
    | .frz=>aV σ r
    | .dead=>match en.l with| [] =>aV σ r|_::_=>Mod.a x ⟨en.gen, .dead,en.ty,[]⟩::aV σ r
   |none=>aV σ r):=rfl
  grind
theorem qL(σ0:St)(d:Nat)(y:V)(r:List V)(j:Nat)(c:Option (Nat×Nat))(K:List V->List Mod->Prop):uF σ0 d (y::r) j c K=(match y with
        | .own e l=>match c with
          |some (k,g)=>uF σ0 d r (j+1) none λvs b=>K (.arr k g::vs) (.a k ⟨g, .own,e,l⟩::b)
          |none=>match σ0.ar (d+1000*j)with
           |none=>uF σ0 d r (j+1) none λvs b=>K (.arr (d+1000*j) 0::vs) (.a (d+1000*j) ⟨0, .own,e,l⟩::b)
           |some _=>False
        | .ap e l=>match c with
          |some (k,g)=>uF σ0 d r (j+1) none λvs b=>K (.arr k g::vs) (.a k ⟨g, .ap,e,l⟩::b)
          |none=>match σ0.ar (d+1000*j)with
           |none=>uF σ0 d r (j+1) none λvs b=>K (.arr (d+1000*j) 0::vs) (.a (d+1000*j) ⟨0, .ap,e,l⟩::b)
           |some _=>False
        |y=>force y λy=>uF σ0 d r (j+1) c λvs b=>K (y::vs) b):=rfl
theorem oW{y:V}(b:∀e l,y= .own e l->False)(c:∀e l,y= .ap e l->False):linear y=false:=by
 cases y with
 |own e l=>exact(b e l rfl).elim
 |ap e l=>exact(c e l rfl).elim
 |_=>rfl
def cO6{Gx:Gh}{σ0:St}:∀(N:List V) (j:Nat) (W:Option (Nat×Nat)) (σ:St) (G:Gh) (Q:List Value) (K:List V->List Mod->Prop),
 Inv T Φ σ a w G->(∀c,j<=c->σ0.ar (d+1000*c)=none->σ.ar (d+1000*c)=none)->(∀k g,W=some (k,g)->(∀g',σ.hasA k g'->g'<g)/\∀c,σ0.ar (d+1000*c)=none->k≠d+1000*c)->Q.length=N.length->
 (∀(i:Nat) u y,Q[i]? =some u->N[i]? =some y->linear y=true->Rb T w Gx (j+i) u y)->(∀(i:Nat) u y,Q[i]? =some u->N[i]? =some y->linear y=false->Rv w G u y/\y.pure)->((∃y∈N,linear y=true)->Keep w w Gx G)->
 (∀c b,j<=c->Gx.O b= .ar c->G.O b= .ext/\Φ.mine b/\b<w.heap.size)->uF σ0 d N j W K->
 ∃vs f G',K vs f/\Inv T Φ (σ.apps f) a w G'/\vs.length=N.length/\(∀(i:Nat) u v,Q[i]? =some u->vs[i]? =some v->Rv w G' u v/\v.ok (σ.apps f).hasB (σ.apps f).hasA)/\G'.β=G.β/\(∀k g,σ.hasA k g->G'.av k g=G.av k g)/\(∀b,G.O b≠ .ext->G'.O b=G.O b)/\(∀k g,σ.hasA k g->(σ.apps f).hasA k g)/\(σ.apps f).bx=σ.bx:=by
 intro N;induction N with
 |nil=>
  intro j W σ G Q K inv _ _ hl _ _ _ _ h;have:Q=[] :=PZ AQ;subst this;exact⟨[],[],G,h,inv,rfl,λi u v hu=>by simp at hu,rfl,λ_ _ _=>rfl,λ_ _=>rfl,λ_ _ h=>h,rfl⟩
 |cons y r ih=>
  intro j W σ G Q K inv m E hl L S Z s h;cases Q with
  |nil=>simp at hl
  |cons u X=>
   have R:X.length=r.length:=AQ
   have D:∀(i:Nat) u y,X[i]? =some u->r[i]? =some y->linear y=true->Rb T w Gx (j+1+i) u y:=λi u y hu hy z=>by
    have:=L (i+1) u y AY EO z;grind
   have B:∀(k g:Nat) (M:AK) (e:TypeId) (l:List V),(M= .own\/M= .ap)->linear y=true->(∀g',σ.hasA k g'->g'<g)->(∀c,j+1<=c->σ0.ar (d+1000*c)=none->k≠d+1000*c)->e<T.n e->bM l->
    (gJ T w Gx j u e l\/(M= .ap/\Rv w Gx u (.cap l)/\∀x∈l,x.cells.length=(T.row e).size))->
    (uF σ0 d r (j+1) none λvs f=>K (.arr k g::vs) (.a k ⟨g,M,e,l⟩::f))->
    ∃vs f G',K vs f/\Inv T Φ (σ.apps f) a w G'/\vs.length=(y::r).length/\(∀(i:Nat) I v,(u::X)[i]? =some I->vs[i]? =some v->Rv w G' I v/\v.ok (σ.apps f).hasB (σ.apps f).hasA)/\G'.β=G.β/\(∀k g,σ.hasA k g->G'.av k g=G.av k g)/\(∀b,G.O b≠ .ext->G'.O b=G.O b)/\(∀k g,σ.hasA k g->(σ.apps f).hasA k g)/\(σ.apps f).bx=σ.bx:=by
    intro k g M e l ag z hno ai he hp aa A;have hx:=Z ⟨y,Af,z⟩;obtain⟨G1,ac,a1,a2,a3,a4,a5⟩:=inv.eV5 (k:=k) (gen:=g) hno ag he hp aa hx (λb hb=>s j b (Po _) hb);have Y:∀k' g',σ.hasA k' g'->(σ.apps [.a k ⟨g,M,e,l⟩]).hasA k' g':=λk' g' hh=>JF;have ae:∀b,G.O b≠ .ext->G1.O b=G.O b:=λb hb=>a3 b (λaf=>hb (s j b (Po _) af).1);have J:Keep w w G G1:=⟨λb hb=>(ae b Aw).trans hb,λ_ _=>rfl⟩
    obtain⟨vs,f,G',b1,b2,b3,b4,b5,b6,b7,b8,b9⟩:=ih (j+1) none (σ.apps [.a k ⟨g,M,e,l⟩]) G1 X _ ac
     (λc t C=>by show upd σ.ar k _ _=_;rw[upd_ne _ _ (Ne.symm (ai c t C))];exact m c (by omega) C)
     (λ_ _ h=>Ag) R D
     (λi u y hu hy z=>by
      obtain⟨H,F⟩:=S (i+1) u y AY EO z;exact⟨H.aW J F,F⟩)
     (λ⟨y',ab,R⟩=>⟨λb hb=>(J.fz b (hx.fz b hb)),λ_ _=>rfl⟩)
     (λc b t hb=>by
      have:=s c b Aa hb;refine⟨?_,this.2⟩;rw[a3 b (by rw[hb];intro e;cases e;omega)]
      exact this.1) A
    refine⟨_,_,G',b1,b2,by simp[b3],?_,b5.trans a4,λk' g' hh=>(b6 k' g' (Y k' g' hh)).trans (a5 k' g' hh),λb hb=>?_,λk' g' hh=>b8 k' g' (Y k' g' hh),b9⟩
    ·intro i I v hu hv
     cases i with
     |zero=>
      simp at hu hv;subst hu;subst hv;have hA:(σ.apps [.a k ⟨g,M,e,l⟩]).hasA k g:=⟨_,upd_same _ _ _,Po _⟩;have e1:G'.av k g=u:=(b6 k g hA).trans a1;refine⟨?_,by simp only[V.ok];exact b8 k g hA⟩;rw[<-e1];exact .arr k g (by rw[e1];exact a2)
     |succ i=>exact b4 i I v AY AZ
    ·grind
   have q:∀c,j+1<=c->d+1000*j≠d+1000*c:=λc h=>Aa
   have aj:linear y=false->(uF σ0 d r (j+1) W λvs f=>K (y::vs) f)->
    ∃vs f G',K vs f/\Inv T Φ (σ.apps f) a w G'/\vs.length=(y::r).length/\(∀(i:Nat) I v,(u::X)[i]? =some I->vs[i]? =some v->Rv w G' I v/\v.ok (σ.apps f).hasB (σ.apps f).hasA)/\G'.β=G.β/\(∀k g,σ.hasA k g->G'.av k g=G.av k g)/\(∀b,G.O b≠ .ext->G'.O b=G.O b)/\(∀k g,σ.hasA k g->(σ.apps f).hasA k g)/\(σ.apps f).bx=σ.bx:=by
    intro z A;obtain⟨vs,f,G',b1,b2,b3,b4,b5,b6,b7,b8,b9⟩:=ih (j+1) W σ G X _ inv (λc t C=>m c Aa C) E R D (λi u y hu hy=>S (i+1) u y AY EO) (λ⟨y',ab,hq⟩=>Z ⟨y',by simp[ab],hq⟩) (λc b t hb=>s c b Aa hb) A;refine⟨_,_,G',b1,b2,by simp[b3],?_,b5,b6,b7,b8,b9⟩;intro i I v hu hv;cases i with
    |zero=>
     simp at hu hv;subst hu;subst hv;obtain⟨H,F⟩:=S 0 u y rfl rfl z;have ah:Keep w w G G':=⟨λb hb=>(b7 b Aw).trans hb,λ_ _=>rfl⟩;exact⟨H.aW ah F,V.pure.ok F _ _⟩
    |succ i=>exact b4 i I v AY AZ
   have U:=L 0 u y rfl rfl;rw[Rq]at U;rw[qL]at h;split at h;rename_i e l;obtain⟨H,F,q3⟩:=U rfl;split at h;rename_i k g;exact B k g .own e l (.inl rfl) rfl (E k g rfl).1 (λc _ C=>(E k g rfl).2 c C) H F (.inl q3) h;split at h;rename_i C;exact B _ 0 .own e l (.inl rfl) rfl (zK (m j (Po _) C) 0) (λc t _=>q c t) H F (.inl q3) h;exact h.elim;rename_i e l;obtain⟨H,F,q3⟩:=U rfl;have ad:gJ T w Gx j u e l\/(AK.ap= .ap/\Rv w Gx u (.cap l)/\∀x∈l,x.cells.length=(T.row e).size):=q3.imp id (λh=>⟨rfl,h⟩);split at h;rename_i k g;exact B k g .ap e l (.inr rfl) rfl (E k g rfl).1 (λc _ C=>(E k g rfl).2 c C) H F ad h;split at h;rename_i C;exact B _ 0 .ap e l (.inr rfl) rfl (zK (m j (Po _) C) 0) (λc t _=>q c t) H F ad h;exact h.elim;grind [force_eq,oW]
end
section
variable{T:Tab}{P:Program}{Φ:Fr}{σ:St}{a:Act}{w w':World}{G G':Gh}{K:VK}{o:Oper}{d:Nat}
def uU{l:List Nat}:aE7 l=true↔l.Nodup:=by
 induction l<;>grind [List.nodup_cons,pM,aE7]
def zW(xs ys:List V)(j k:Nat):Prop:=∃x y,xs[j]? =some x/\ys[j]? =some y/\linear y=true/\k∈jQ x
theorem aK3:∀ {ys xs:List V},(bD ys xs).Nodup->∀ {j b k:Nat},zW xs ys j k->zW xs ys b k->j=b:=by
 intro ys;induction ys with
 |nil=>rintro xs _ j b k ⟨x,y,_,h,_⟩;simp at h
 |cons y r q=>
  intro xs p j b k h n;cases xs with
  |nil=>obtain⟨x,y,h,_⟩:=h;simp at h
  |cons x xr=>
   have c:bD (y::r) (x::xr)=appR (cond (linear y) (jQ x) []) (bD r xr):=rfl;rw[c,bT,List.nodup_append]at p;obtain⟨_,s,B⟩:=p
   have e:∀ {j},zW (x::xr) (y::r) (j+1) k->zW (x::xr) (y::r) 0 k->False:=by
    rintro j ⟨l,m,f,g,i,t⟩ ⟨C,D,u,v,z,A⟩;grind [oZ]
   cases j with
   |zero=>
    cases b<;>simp_all
   |succ j=>
    cases b with
    |zero=>exact(e h n).elim
    |succ b=>
     have:j=b:=q s (by obtain⟨l,m,f,g,i⟩:=h;exact⟨l,m,by simpa using f,by simpa using g,i⟩) (by obtain⟨l,m,f,g,i⟩:=n;exact⟨l,m,by simpa using f,by simpa using g,i⟩);rw[this]
def bJ2(en:AE):AE:=⟨en.gen, .dead,en.ty,[]⟩
def bP7(σ σ':St)(e:List Nat):(∀k∈e,σ.ar k=none->σ'.ar k=none)->∀k,(σ'.apps (aX σ e)).ar k=if k∈e then(σ.ar k).map bJ2 else σ'.ar k:=by
 induction e generalizing σ' with
 |nil=>intro _ k;simp[aX,St.apps]
 |cons x r l=>
  intro m k;have b:aX σ (x::r)=(match σ.ar x with|some en=>Mod.a x ⟨en.gen, .dead,en.ty,[]⟩::aX σ r|none=>aX σ r):=rfl;rw[b];cases f:σ.ar x with
  |none=>
   grind
  |some en=>
   simp only;have i:σ'.apps (Mod.a x ⟨en.gen, .dead,en.ty,[]⟩::aX σ r)=((Mod.a x ⟨en.gen, .dead,en.ty,[]⟩).app σ').apps (aX σ r):=rfl;rw[i,l _ (λg j c=>?_) k];by_cases h1:k∈r;simp[h1];by_cases h2:k=x;subst h2;simp only[h1,Rx,P5,true_or,QM];show upd σ'.ar k _ k=_;rw[upd_same,f];rfl;exact Kw;show upd σ'.ar x _ g=_;have:g≠x:=by rintro rfl;rw[f]at c;cases c
   grind [upd_ne]
theorem aS3(σ:St)(e:List Nat):∀m∈aX σ e,∃k en,m= .a k en:=by
 induction e with
 |nil=>intro m c;cases c
 |cons x r f=>
  intro m c;have b:aX σ (x::r)=(match σ.ar x with|some en=>Mod.a x ⟨en.gen, .dead,en.ty,[]⟩::aX σ r|none=>aX σ r):=rfl;grind
def bG6{v:Value}{y:V}(e:sS y=true)(h:Rv w G v y):Rv w G' v y:=by
 cases y with
 |lit u=>rw[h.bH];exact .lit u h.aZ3
 |agg cs=>
  have b:allR bR6 cs=true:=e;rw[dY]at b;obtain⟨vs,g,j,k,l⟩:=h.zV;rw[g];refine .agg vs cs j k λi c x m f=>?_;have:=b x (Pn f);cases x with
  |lit u=>have:=l i c _ m f;rw[this.bH];exact .lit u this.aZ3
  |_=>simp[bR6]at this
 |_=>simp[sS]at e
def cZ3{b:List Nat}{k g:Nat}(h:reuse σ b=some (k,g)):∃en,σ.ar k=some en/\g=en.gen+1:=by
 unfold reuse at h;grind
def cA5{y:V}(h:sS y=true):linear y=false:=by cases y<;>first|rfl|(simp[sS]at h)
def aW9{y:V}(h:aH7 y=true)(c:∀b,y= .tup b->False):sS y=true:=by
 cases y with
 |tup b=>exact(c b rfl).elim
 |lit u=>rfl
 |agg cs=>exact h
 |_=>simp[aH7]at h
set_option maxHeartbeats 800000 in
def bO8(inv:Inv T Φ σ a w G){ae lend:Bool}{f:FuncId}{us:List Value}{xs:List V}(a8:us.length=xs.length)(hrel:∀(i:Nat) v x,us[i]? =some v->xs[i]? =some x->Rv w G v x/\x.ok σ.hasB σ.hasA){ys:List V}{r:V}{X:Value->Array Value->World->Gh->Prop}(ab:iQ T σ.ar ys xs)(R:sO ae lend xs ys r=true)
 (z:dY8 T P f ys r X):
 Calls P f us.toArray w λe w1=>∃v A G2,e= .returned v/\(Rr T w1 A v r/\X v us.toArray w1 A)/\Inv T Φ (σ.apps (cond lend [] (aV σ (bK ys xs))++aX σ (bD ys xs))) a w1 G2/\
  (∀j' b,A.O b= .ar j'->G2.O b= .ext/\Φ.mine b/\b<w1.heap.size)/\(lend=false->Keep w1 w1 A G2)/\
  (∀k,(σ.apps (cond lend [] (aV σ (bK ys xs))++aX σ (bD ys xs))).ar k=if k∈bD ys xs then(σ.ar k).map bJ2 else if lend=false/\k∈bK ys xs then(σ.ar k).map frzE else σ.ar k)/\
  (∀k en,σ.ar k=some en->∃en2,(σ.apps (cond lend [] (aV σ (bK ys xs))++aX σ (bD ys xs))).ar k=some en2/\en2.gen=en.gen)/\G2.av=G.av:=by
 obtain⟨a1,z⟩:=z;obtain⟨hlen,hg⟩:=qM ab;simp only[sO,iR,Px]at R;obtain⟨⟨⟨⟨aq,aa⟩,ao⟩,a2⟩,_⟩:=R;have aq:=uU.1 aq
 have aa:∀k∈bD ys xs,k∉bK ys xs:=λk hk J=>by
  grind [dY,pM]
 generalize a7:bD ys xs=ok at*;generalize bc:bK ys xs=E at*;have a5:ok.length<=1:=by rw[iL]at ao;simpa using ao
 let af:Nat->Nat:=λk=> @dite _ (∃j,zW xs ys j k) (Classical.propDecidable _) (λh=>h.choose) (λ_=>0)
 have aw:∀ {j k},zW xs ys j k->af k=j:=by
  intro j k hp;have bb:∃j,zW xs ys j k:=⟨j,hp⟩;grind [aK3]
 let Gc:Gh:={G with O:=λb=>match G.O b with| .fz=> .fz| .ar k=>if k∈E then .fz else if k∈ok then .ar (af k)else .ext|_=> .ext};have H:∀b,G.O b= .fz->Gc.O b= .fz:=λb hb=>BG;have a9:∀b i,G.O b= .bx i->Gc.O b= .ext:=λb i hb=>BG;have S:∀b,G.O b= .ext->Gc.O b= .ext:=λb hb=>BG;have ah:∀b k,G.O b= .ar k->k∈E->Gc.O b= .fz:=λb k hb hk=>Dj
 have ag:∀b k,G.O b= .ar k->k∈ok->Gc.O b= .ar (af k):=λb k hb hk=>by
  grind
 have ba:∀b k,G.O b= .ar k->k∉E->k∉ok->Gc.O b= .ext:=λb k hb h1 n=>by simp only[Gc];rw[hb];simp[h1,n]
 have U:∀b,Gc.O b= .fz->G.O b= .fz\/∃k∈E,G.O b= .ar k:=by
  grind
 have F:∀b j,Gc.O b= .ar j->∃k∈ok,G.O b= .ar k:=by
  grind
 have a3:Keep w w G Gc:=⟨H,λ_ _=>rfl⟩;have ad:∀b,Gc.O b≠ .ext->b<w.heap.size:=λb hb=>inv.tag b (λhO=>hb (S b hO))
 have ak:∀b i,Gc.O b≠ .bx i:=λb i hb=>by
  grind
 have Z:∀(j:Nat) v y,us.toArray[j]? =some v->ys[j]? =some y->Rb T w Gc j v y:=by
  intro j v y hv hy;have hj:j<xs.length:=Es;have hx:xs[j]? =some xs[j] :=Pj hj;obtain⟨e1,Y⟩:=hrel j v _ AZ hx;refine aJ2 inv a3 (hg j _ y hx hy) e1 Y (λI k hk b hb=>?_) (λI k hk b hb=>?_);grind [nP];have am:k∈ok:=by rw[<-a7];exact oZ.2 ⟨j,_,y,hx,hy,I,hk⟩
  rw[ag b k hb am];rw[aw ⟨_,y,hx,hy,I,hk⟩]
 have an:T.lay w (λb=>Gc.O b= .fz):=T.lay_mono (λb hb=>⟨H b (inv.F0 b hb),inv.frame b (inv.lay.2 b hb).1 (inv.lay.2 b hb).2⟩) inv.lay.1;refine(z w Gc us.toArray (by rw[<-hlen,<-a8];simp) ad ak Z an).mono ?_;rintro e w1 ⟨v,A,rfl,ax,r1,r2,r3,r4,r5,r6,r7,r8,r9⟩;have M:∀b,G.O b≠ .ext->b<w.heap.size:=inv.tag
 have u:∀b,b<w.heap.size->(∀k,G.O b= .ar k->k∉ok)->w1.heap[b]? =w.heap[b]? :=λb hb hh=>r5 b hb (λj hj=>by
  obtain⟨k,h1,n⟩:=F b j hj;exact hh k n h1)
 have az:∀b,b<w.heap.size->Gc.O b= .ext->A.O b= .ext:=by
  grind
 let s:Nat->Prop:=λb=>lend=true/\∃k∈E,G.O b= .ar k;let G2:Gh:={G with O:=λb=> @ite _ (A.O b= .fz/\¬s b) (Classical.propDecidable _) .fz (match G.O b with| .bx i=> .bx i| .ar k=>if k∈ok then .ext else .ar k|_=> .ext)};have B:∀b,A.O b= .fz->¬s b->G2.O b= .fz:=λb h1 n=>by simp only[G2];rw[Pm ⟨h1,n⟩]
 have d_else:∀b,¬(A.O b= .fz/\¬s b)->G2.O b=(match G.O b with| .bx i=> .bx i| .ar k=>if k∈ok then .ext else .ar k|_=> .ext):=λb h=>by simp only[G2];rw[Ph h]
 have W:∀b,G.O b= .fz->G2.O b= .fz:=λb hb=>B b (r1 b (H b hb)) (by rintro⟨_,k,_,n⟩;rw[hb]at n;cases n)
 have aj:∀b i,G.O b= .bx i->G2.O b= .bx i:=λb i hb=>by
  grind
 have ai:∀b k,G.O b= .ar k->k∉ok->(lend=true\/k∉E)->G2.O b= .ar k:=λb k hb h1 n=>by
  grind
 have hkeep:Keep w w1 G G2:=⟨W,λb hb=>u b (M b Aw) (λk hk=>by rw[hb]at hk;cases hk)⟩;let D:List Mod:=cond lend [] (aV σ E);let dm:List Mod:=aX σ ok
 have a6:∀m∈D++dm,∃k en,m= .a k en:=by
  intro m J;rcases Pv.1 J with J|J;cases I:lend with
  |true=>simp only[D,I,Qo]at J;cases J
  |false=>simp only[D,I,Qu]at J;exact bF7 σ E m J
  exact aS3 σ ok m J
 have Q:(σ.apps (D++dm)).bx=σ.bx:=aR5 σ _ a6
 have N:∀k,(σ.apps D).ar k=if lend=false/\k∈E then(σ.ar k).map frzE else σ.ar k:=by
  intro k;cases I:lend with
  |true=>simp only[D,I,Qo];simp[St.apps]
  |false=>
   simp only[D,I,Qu];rw[cH2 σ σ E (λ_=> .inl rfl) k];simp
 have har2:∀k,(σ.apps (D++dm)).ar k=if k∈ok then(σ.ar k).map bJ2 else if lend=false/\k∈E then(σ.ar k).map frzE else σ.ar k:=by
  intro k;rw[dO,bP7 σ (σ.apps D) ok (λk' C hn=>by rw[N,hn];simp) k,N]
 have hgen:∀k en,σ.ar k=some en->∃en2,(σ.apps (D++dm)).ar k=some en2/\en2.gen=en.gen:=by
  intro k en hen;exact OU
 have a0:∀k g,σ.hasA k g->(σ.apps (D++dm)).hasA k g:=λk g ⟨en,h1,n⟩=>by
  exact OC
 have ay:Inv T Φ (σ.apps (D++dm)) a w1 G2:=by
  refine inv.change (vM σ _) hkeep (λ_ _=>rfl) (λ_ _ _=>rfl) (λi hi=>by obtain⟨x,hx⟩:=hi;exact⟨x,by rw[Q];exact hx⟩) a0 ?_ ?_ ?_ ?_ ?_ r6 r7 r8 r9;intro i cs hi;rw[Q]at hi;obtain⟨c,t,q1,q2,q3⟩:=inv.box i cs hi;exact .inl ⟨hi,aj _ i q3,u _ (M _ FU) (λk hk=>by rw[q3]at hk;cases hk)⟩;intro k en hen;rw[har2]at hen;by_cases hk1:k∈ok;exact Jy;rw[Ph hk1]at hen;by_cases L:lend=false/\k∈E;rw[Pm L]at hen;cases hs:σ.ar k with
  |none=>rw[hs]at hen;cases hen
  |some en0=>
   rw[hs]at hen;simp at hen;have hp:=inv.wfA k en0 hs;have hokk:=inv.arr k en0 hs;have al:∀b,G.O b= .ar k->G2.O b= .fz:=λb hb=>B b (r1 b (ah b k hb L.2)) (by rintro⟨h1,_⟩;rw[L.1]at h1;cases h1)
   have own:∀ {ty},gJ T w G k (G.av k en0.gen) ty en0.l->Rv w1 G2 (G.av k en0.gen) (.sl en0.l):=by
    intro ty au;rcases au with⟨e1,Y⟩|⟨b,cap,cur,e1,Y,e3,e4,e5,e6,e7,e8⟩;rw[Y];exact bA2 e1;obtain⟨cc,q1,q2⟩:=(e8.here e3).out;rw[e1];refine .slS _ cap en0.l _ cc e4 e5 (λ_=>al b Y) e7 (λj y hy=>?_) (λj y hy=>(q2 j y hy).aW hkeep (dF hp hy));refine⟨?_,(q1 j y hy).2⟩;rw[<-(q1 j y hy).1];exact World.cell?_of_block (by rw[add_block];exact u b (M b (by rw[Y];simp)) (λk' C=>by rw[Y]at C;cases C;exact hk1))
   exact LW
  rw[Ph L]at hen;refine .inl ⟨hen,λb hb=>⟨ai b k hb hk1 ?_,u b (M b Aw) (λk' C=>by rw[hb]at C;cases C;exact hk1)⟩⟩;grind;grind;intro b;by_cases hc:A.O b= .fz/\¬s b;rcases r4 b (by rw[hc.1];simp)with⟨h1,_⟩|h1|⟨j,h1⟩;rcases U b h1 with n|⟨k,n,h3⟩;exact .inl (by rw[B b hc.1 hc.2,n]);exact .inr (.inr (inv.mineA b k h3));exact .inr (.inr (.inl (PD inv.size h1)));obtain⟨k,_,h3⟩:=F b j h1;exact .inr (.inr (inv.mineA b k h3));exact Jw;intro b;rcases Qx b w.heap.size with hb|hb;by_cases hh:∃k∈ok,G.O b= .ar k;obtain⟨k,_,n⟩:=hh;exact .inr (inv.mineA b k n);exact .inl (u b hb (λk hk J=>hh ⟨k,J,hk⟩));exact .inr (.inl (PD inv.size hb))
 have ac:∀j' b,A.O b= .ar j'->G2.O b= .ext/\Φ.mine b/\b<w1.heap.size:=by
  intro j' b hb;have hne:¬(A.O b= .fz/\¬s b):=by rintro⟨h1,_⟩;rw[hb]at h1;cases h1
  have hsz:=r2 b Aw;rcases r4 b Aw with⟨_,h1⟩|h1|⟨j,h1⟩;rw[hb]at h1;cases h1;exact JZ;obtain⟨k,n,h3⟩:=F b j h1;exact⟨by rw[d_else b hne,h3];simp[n],inv.mineA b k h3,hsz⟩
 have a4:lend=false->Keep w1 w1 A G2:=λI=>⟨λb hb=>B b hb (by rintro⟨h1,_⟩;rw[I]at h1;cases h1),λ_ _=>rfl⟩;exact⟨v,A,G2,rfl,ax,ay,ac,a4,har2,hgen,rfl⟩
set_option maxHeartbeats 800000 in
def eJ8(inv:Inv T Φ σ a w G){R lend:Bool}{f:FuncId}{E:List Value}{xs:List V}(Q:E.length=xs.length)(hrel:∀(i:Nat) v x,E[i]? =some v->xs[i]? =some x->Rv w G v x/\x.ok σ.hasB σ.hasA){ys:List V}{r:V}(L:iQ T σ.ar ys xs)(z:sO R lend xs ys r=true)(O:Spec T P f ys r)
 (m:zZ σ d (reuse σ (bD ys xs)) r λv n=>K v (appR (cond lend [] (aV σ (bK ys xs))) (appR (aX σ (bD ys xs)) n))):
 Calls P f E.toArray w λe w'=>∃v',e= .returned v'/\∃v n G',K v n/\Inv T Φ (σ.apps n) a w' G'/\Rv w' G' v' v/\v.ok (σ.apps n).hasB (σ.apps n).hasA:=by
 refine(bO8 inv Q hrel L z O.x).mono ?_;rintro e S ⟨v,U,G2,rfl,⟨aa,_⟩,ab,M,Y,W,ah,aj⟩;refine⟨v,rfl,?_⟩;simp only[sO,iR,Px]at z;obtain⟨⟨⟨⟨al,ac⟩,ak⟩,l⟩,_⟩:=z;generalize am:bD ys xs=ok at*;generalize an:bK ys xs=vk at*;let J:List Mod:=cond lend [] (aV σ vk);let I:List Mod:=aX σ ok;have C:∀A,0<=A->σ.ar (d+1000*A)=none->(σ.apps (J++I)).ar (d+1000*A)=none:=λA _ hn=>by rw[W,hn];simp
 have ag:∀k g,reuse σ ok=some (k,g)->(∀g',(σ.apps (J++I)).hasA k g'->g'<g)/\∀A,σ.ar (d+1000*A)=none->k≠d+1000*A:=by
  intro k g af;obtain⟨en,hen,rfl⟩:=cZ3 af;refine⟨λg' ⟨ai,q1,q2⟩=>?_,λA hn e=>DZ⟩;grind
 have hms:∀n,σ.apps (appR (cond lend [] (aV σ vk)) (appR (aX σ ok) n))=(σ.apps (J++I)).apps n:=λn=>by
  rw[bT,bT,<-Pq,dO]
 have q:∀(t:List V) (E:List Value),E.length=t.length->(∀(i:Nat) u y,E[i]? =some u->t[i]? =some y->Rb T S U i u y)->(lend=true->∀y∈t,sS y=true)->∀(K':List V->List Mod->Prop),uF σ d t 0 (reuse σ ok) K'->
  ∃vs n G',K' vs n/\Inv T Φ ((σ.apps (J++I)).apps n) a S G'/\vs.length=t.length/\(∀(i:Nat) u v,E[i]? =some u->vs[i]? =some v->Rv S G' u v/\v.ok ((σ.apps (J++I)).apps n).hasB ((σ.apps (J++I)).apps n).hasA):=by
  intro t E Q hrb X K' Z
  obtain⟨vs,n,G',F,H,b3,b4,_⟩:=cO6 (Gx:=U) (σ0:=σ) t 0 (reuse σ ok) (σ.apps (J++I)) G2 E K' ab C ag Q
   (λi u y hu hy _=>Fq)
   (λi u y hu hy D=>by
    have hb:=hrb i u y hu hy
    have B:y.pure/\Rv S U u y:=by
     unfold Rb at hb;grind [Rb,linear]
    refine⟨?_,B.1⟩;cases s:lend with
    |true=>exact bG6 (X s y (Pn hy)) B.2
    |false=>exact B.2.aW (Y s) B.1)
   (λ⟨y,hy,D⟩=>by
    cases s:lend with
    |true=>rw[cA5 (X s y hy)]at D;cases D
    |false=>exact Y s)
   (λA b _ hb=>M A b hb) Z
  exact⟨vs,n,G',F,H,b3,b4⟩
 unfold zZ at m;split at m
 ·rename_i t
  obtain⟨vs',e1,e2,eo,e3⟩:∃vs:Array Value,v= .agg vs/\vs.size=t.length/\(∀c∈vs,c.oneCell'=true)/\∀(j:Nat) u y,vs[j]? =some u->t[j]? =some y->Rb T S U j u y:=aa
  obtain⟨vs,n,G',F,H,b3,b4⟩:=q t vs'.toList FB (λi u y hu hy=>e3 i u y AY hy)
   (λD y hy=>by rw[D]at l;exact Bool.noConfusion (show false=true from l)) _ m
  refine⟨.agg vs,_,G',F,by rw[hms];exact H,?_,?_⟩
  ·rw[e1]
   refine .agg vs' vs (by rw[e2,b3]) eo λi c x hc hx=>(b4 i c x CQ hx).1
  ·exact Jv
 ·rename_i t ad
  obtain⟨vs',e1,e2,e3⟩:∃vs:Array Value,v= .tuple vs/\vs.size=t.length/\∀(j:Nat) u y,vs[j]? =some u->t[j]? =some y->Rb T S U j u y:=by
   grind [Rr]
  obtain⟨vs,n,G',F,H,b3,b4⟩:=q t vs'.toList FB (λi u y hu hy=>e3 i u y AY hy)
   (λD y hy=>by rw[D]at l;exact dY.1 (l:allR sS t=true) y hy) _ m
  refine⟨.tup vs,_,G',F,by rw[hms];exact H,?_,?_⟩
  ·exact KQ
  ·exact Jv
 ·rename_i ad ae
  have N:Rb T S U 0 v r:=by
   grind [Rr]
  obtain⟨vs,n,G',F,H,b3,b4⟩:=q [r] [v] rfl (λi u y hu hy=>by
   cases i with
   |zero=>simp at hu hy;subst hu;subst hy;exact N
   |succ i=>simp at hu)
   (λD y hy=>by
    simp at hy;subst hy;rw[D]at l;have hf:aH7 y=true:=l;exact aW9 hf ae) _ m
  match vs,b3 with
  | [x],_=>
    obtain⟨q1,q2⟩:=b4 0 v x rfl rfl;exact⟨x,_,G',F,by rw[hms];exact H,q1,by rw[hms];exact q2⟩
set_option maxHeartbeats 800000 in
def eO2(inv:Inv T Φ σ a w G){f:FuncId}{E:List Value}{xs:List V}(ac:E.length=xs.length)(hrel:∀(i:Nat) v x,E[i]? =some v->xs[i]? =some x->Rv w G v x/\x.ok σ.hasB σ.hasA){ys:List V}{r:V}{j k g:Nat}{e:TypeId}{l L:List V}(B:iQ T σ.ar ys xs)(W:sO false false xs ys r=true)(J:bE5 T P f ys r j e L)
 (Q:ys[j]? =some (.own e l))(z:xs[j]? =some (.arr k g))(t:aH7 r=true)
 (hk:K r (appR (aV σ (bK ys xs)) (appR (aX σ (bD ys xs)) [.a k ⟨g, .own,e,L⟩]))):
 Calls P f E.toArray w λe w'=>∃v',e= .returned v'/\∃v ms G',K v ms/\Inv T Φ (σ.apps ms) a w' G'/\Rv w' G' v' v/\v.ok (σ.apps ms).hasB (σ.apps ms).hasA:=by
 refine(bO8 (lend:=false) inv ac hrel B W J).mono ?_;obtain⟨au,hg⟩:=qM B;have aj:=hg j _ _ z Q;have hj:j<E.length:=by rw[ac];exact(Pg.1 z).1
 have Z:∃en,σ.ar k=some en/\en.gen=g/\en.kind= .own/\en.ty=e/\en.l=l:=by
  have h':(match σ.ar k with
   |some en=>en.gen=g/\en.kind= .own/\en.ty=e/\en.l=l
   |none=>False):=aj
  grind
 obtain⟨en,X,ai,al,a1,a0⟩:=Z
 have S:E.toArray.getD j undef=G.av k g:=by
  have h1:=(hrel j E[j] _ (Pj hj) z).1;have h3:E.toArray.getD j undef=E[j] :=GH;rw[h3,h1.oQ]
 have he:e<T.n e:=by
  have h1:=inv.arr k en X;grind [gW]
 have az:k∈bD ys xs:=oZ.2 ⟨j,_,_,z,Q,rfl,by simp[jQ]⟩;rintro ex M ⟨v,N,A,rfl,⟨s,ab,tg,aa⟩,D,aq,an,R,C,ah⟩;have am:=an rfl;rw[S]at aa;simp only[Qu]at D R C;generalize aw:σ.apps (aV σ (bK ys xs)++aX σ (bD ys xs))=ae at*
 have I:σ.apps (appR (aV σ (bK ys xs)) (appR (aX σ (bD ys xs)) [.a k ⟨g, .own,e,L⟩]))=ae.apps [.a k ⟨g, .own,e,L⟩] :=by
  grind [bT,Pq,dO]
 let O':Nat->Tag:=λb=>match N.O b with| .ar i=>if i=tg then .ar k else A.O b|_=>A.O b
 have af:∀b,N.O b≠ .ar tg->O' b=A.O b:=by
  grind
 have ag:∀b,N.O b= .ar tg->O' b= .ar k:=by
  grind
 have ak:Keep M M N {A with O:=O'}:=⟨λb hb=>(af b Aw).trans (am.fz b hb),λ_ _=>rfl⟩
 have ad:Inv T Φ (ae.apps [.a k ⟨g, .own,e,L⟩]) a M {A with av:=A.av,O:=O'}:=by
  refine D.zU (w':=M) (k:=k) (en:=⟨g, .own,e,L⟩) (av':=A.av) (O':=O') ?_ (λ_ _ _=>rfl) ab ?_ ?_ ?_ (λ_ _ _=>rfl) (Po _) rfl rfl rfl;rintro g' ⟨ax,q1,q2⟩;obtain⟨ay,q3,q4⟩:=C k en X;rw[q3]at q1;cases q1;show g'<=g;omega;unfold gW;refine⟨he,?_⟩;show gJ T M {A with av:=A.av,O:=O'} k (A.av k g) e L;have U:A.av k g=G.av k g:=by rw[ah]
  rw[U];rcases aa with h|⟨b,cap,cur,h1,h2,h3,h4,h5,h6,h7,h8⟩;exact .inl h;refine .inr ⟨b,cap,cur,h1,ag b h2,h3,h4,h5,h6,h7,h8.keep ak (p:=λ_=>False) (q:=λ_ _=>False) ?_ (λ_ h=>h.elim) (λ_ _ h=>h.elim)⟩;refine aH.2 λy Q=>?_;obtain⟨i,hi⟩:=P7 Q;exact dF ab hi;grind;grind
 refine⟨v,rfl,r,_,_,hk,by rw[I];exact ad,?_,?_⟩
 ·unfold Rr at s
  split at s
  ·exact Bool.noConfusion (show false=true from t)
  ·rename_i rs _
   obtain⟨vs,e1,e2,e3⟩:=s;rw[e1];have Y:allR sS rs=true:=t;refine .tup vs rs e2 λi c x hc z=>?_;have H:=dY.1 Y x (Pn z);have hb:=e3 i c x hc z
   have F:x.pure/\Rv M N c x:=by
    unfold Rb at hb;grind [sS]
   exact bG6 H F.2
  ·rename_i ao
   have H:=aW9 t ao
   have F:r.pure/\Rv M N v r:=by
    unfold Rb at s;grind [sS]
   exact bG6 H F.2
 ·have m:∀ {x:V},sS x=true->∀p q,x.ok p q:=by
   intro x z p q;cases x with
   |lit u=>simp only[V.ok]
   |agg cs=>
    simp only[V.ok];refine aH.2 λy Q=>?_;have:=dY.1 (z:allR bR6 cs=true) y Q;cases y with
    |lit u=>simp only[V.ok]
    |_=>simp[bR6]at this
   |_=>simp[sS]at z
  cases r with
  |tup rs=>
   simp only[V.ok];refine aH.2 λx z=>m (dY.1 (t:allR sS rs=true) x z) _ _
  |lit u=>simp only[V.ok]
  |agg cs=>exact m (x:= .agg cs) t _ _
  |_=>simp[aH7]at t
set_option maxHeartbeats 800000 in
def call_new(inv:Inv T Φ σ a w G){f:FuncId}{L:List Value}{xs:List V}(J:L.length=xs.length)(hrel:∀(i:Nat) v x,L[i]? =some v->xs[i]? =some x->Rv w G v x/\x.ok σ.hasB σ.hasA){ys:List V}{g:List V}(m:iQ T σ.ar ys xs)(y:sO false false xs ys .bot=true)(s:SpecN T P f ys g)
 (hd:σ.bx d=none)(X:K (.box d 0) (appR (aV σ (bK ys xs)) (appR (aX σ (bD ys xs)) [.b d g]))):
 Calls P f L.toArray w λe w'=>∃v',e= .returned v'/\∃v D G',K v D/\Inv T Φ (σ.apps D) a w' G'/\Rv w' G' v' v/\v.ok (σ.apps D).hasB (σ.apps D).hasA:=by
 refine(bO8 (lend:=false) inv J hrel m y s).mono ?_;rintro ex R ⟨v,Z,C,rfl,⟨Q,A,b,c,t,j,rfl,U,W,Y⟩,l,r,F,M,N,S⟩;have E:=F rfl;obtain⟨z,n,H⟩:=r j b U;simp only[Qu]at l
 have u:(σ.apps (aV σ (bK ys xs)++aX σ (bD ys xs))).bx d=none:=by
  grind [aR5,bF7,aS3,Pv.1]
 have k:σ.apps (appR (aV σ (bK ys xs)) (appR (aX σ (bD ys xs)) [.b d g]))=(σ.apps (aV σ (bK ys xs)++aX σ (bD ys xs))).apps [.b d g] :=by
  grind [bT,Pq,dO]
 have I:RvL R C c.toList g:=Y.keep E (p:=λ_=>False) (q:=λ_ _=>False) A (λ_ h=>h.elim) (λ_ _ h=>h.elim);have B:=l.takeBox u z n H W I (V.okL.imp (λ_ h=>h.elim) (λ_ _ h=>h.elim) _ A);refine⟨_,rfl, .box d 0,_,_,X,by rw[k];exact B,?_,?_⟩
 ·have:=Rv.box (w:=R) (G:={C with β:=upd C.β d b,O:=upd C.O b (.bx d)}) d 0
  simp only[upd_same]at this;exact this
 ·rw[k]
  simp only[V.ok];exact⟨g,upd_same _ _ _⟩
end
theorem dH8(f:Nat->Nat)(xs:List V):(V.agg xs).ren f= .agg (xs.map (V.ren f)):=by
 have h:∀l:List V,(V.agg l).ren f= .agg (l.map (V.ren f)):=by
  intro l;induction l with
  |nil=>rfl
  |cons x r c=>
   have b:(V.agg (x::r)).ren f=(match(V.agg r).ren f with| .agg l=> .agg (x.ren f::l)|y=>y):=rfl;rw[b,c];rfl
 exact h xs
theorem dD2(f:Nat->Nat)(xs:List V):(V.tup xs).ren f= .tup (xs.map (V.ren f)):=by
 have h:∀l:List V,(V.tup l).ren f= .tup (l.map (V.ren f)):=by
  intro l;induction l with
  |nil=>rfl
  |cons x r c=>
   have b:(V.tup (x::r)).ren f=(match(V.tup r).ren f with| .tup l=> .tup (x.ren f::l)|y=>y):=rfl;rw[b,c];rfl
 exact h xs
theorem eK1(f:Nat->Nat)(g:FuncId)(xs:List V):(V.fn g xs).ren f= .fn g (xs.map (V.ren f)):=by
 have h:∀l:List V,(V.fn g l).ren f= .fn g (l.map (V.ren f)):=by
  intro l;induction l with
  |nil=>rfl
  |cons x r c=>
   have b:(V.fn g (x::r)).ren f=(match(V.fn g r).ren f with| .fn g l=> .fn g (x.ren f::l)|y=>y):=rfl;rw[b,c];rfl
 exact h xs
mutual
theorem V.ok.ren{p p':Nat->Prop}{q:Nat->Nat->Prop}{f:Nat->Nat}(b:∀j,p j->p' (f j)):(x:V)->x.ok p q->(x.ren f).ok p' q
 | .bot,_=>FN
 | .lit u,_=>Fv
 | .agg l,h=>by
   rw[dH8];simp only[V.ok]at h⊢;exact V.okL.ren b l h
 | .tup l,h=>by
   rw[dD2];simp only[V.ok]at h⊢;exact V.okL.ren b l h
 | .sl l,h=>Eb
 | .cap l,h=>DX
 | .own e l,h=>DI
 | .ap e l,h=>DU
 | .box j off,h=>by
   show V.ok _ _ (.box (f j) off);simp only[V.ok]at h⊢;exact b j h
 | .arr k g,h=>DJ
 | .fp l,h=>Ec
 | .ae k g z i' o,h=>Dh
 | .fn g l,h=>by
   rw[eK1];simp only[V.ok]at h⊢;exact V.okL.ren b l h
theorem V.okL.ren{p p':Nat->Prop}{q:Nat->Nat->Prop}{f:Nat->Nat}(b:∀j,p j->p' (f j)):(l:List V)->V.okL p q l->V.okL p' q (l.map (V.ren f))
 | [],_=>by simp only[QC,V.okL]
 |x::r,h=>by
  simp only[PW,V.okL]at h⊢;exact⟨V.ok.ren b x h.1,V.okL.ren b r h.2⟩
end
section
variable{T:Tab}{P:Program}{Φ:Fr}{σ:St}{a:Act}{w w':World}{G G':Gh}{K:VK}{o:Oper}{d:Nat}
def Rv.ren{f:Nat->Nat}(C:Keep w w G G'){v:Value}{x:V}(h:Rv w G v x):
 ∀ {p:Nat->Prop},x.ok p (λ_ _=>False)->(∀i,p i->G'.β (f i)=G.β i)->Rv w G' v (x.ren f):=by
 induction h with
 |bot v=>intros;exact .bot v
 |lit u h=>intros;exact .lit u h
 |agg vs xs hl E _ ih=>
  intro p hok hp;simp only[V.ok]at hok;rw[dH8];refine .agg vs _ AQ E λj c x hc hx=>?_;exact NS
 |tup vs xs hl _ ih=>
  intro p hok hp;simp only[V.ok]at hok;rw[dD2];refine .tup vs _ AQ λj c x hc hx=>?_;exact NS
 |slN=>intros;exact .slN
 |slS a c l sz cc t q r z A B _=>
  intro p hok hp;exact(Rv.slS a c l sz cc t q r z A B).aW C AL
 |capN=>intros;exact .capN
 |capS a l sz cc q r z A B _=>
  intro p hok hp;exact(Rv.capS a l sz cc q r z A B).aW C AL
 |box j off=>
  intro p hok hp;simp only[V.ok]at hok;rw[<-hp j hok];exact .box (f j) off
 |arr k g h=>
  intro p hok hp;simp only[V.ok]at hok
 |fp a l cc t q r _=>
  intro p hok hp;exact(Rv.fp a l cc t q r).aW C AL
 |ae k g sz j off a n c h=>
  intro p hok hp;simp only[V.ok]at hok
 |fn g H e hl _ ih=>
  intro p hok hp;simp only[V.ok]at hok;rw[eK1];refine .fn g H _ AQ λj c x hc hx=>?_;rw[PK]at hx;cases hy:e[j]? with
  |none=>rw[hy]at hx;cases hx
  |some y=>exact IQ
 |fb g D e hl _ ih=>
  intro p hok hp;simp only[V.ok,V.okL]at hok;rw[eK1];refine .fb g D (e.map (V.ren f)) AQ λj c x hc hx=>?_;rw[PK]at hx;cases hy:e[j]? with
  |none=>rw[hy]at hx;cases hx
  |some y=>
   rw[hy]at hx;simp only[Qg,Ql]at hx;subst hx;exact ih j c y hc hy (aH.1 hok.2 y (Pn hy)) hp
 |mp b s m g F es val t q r z A B _=>
  intro p hok hp;exact(Rv.mp b s m g F es val t q r z A B).aW C ED
abbrev Grp:=List (List V×List V)
def PosG(gs:Grp)(γ q k:Nat):Prop:=∃g,gs[γ]? =some g/\zW g.1 g.2 q k
theorem aT8{ys xs:List V}{k:Nat}:k∈bD ys xs↔∃q,zW xs ys q k:=by
 rw[oZ];constructor;rintro⟨i,x,y,h⟩;exact⟨i,x,y,h⟩;rintro⟨i,x,y,h⟩;exact⟨i,x,y,h⟩
theorem bT5(g:List V×List V)(b:Grp):ownG (g::b)=bD g.2 g.1++ownG b:=by
 have:ownG (g::b)=appR (bD g.2 g.1) (ownG b):=rfl;rw[this,bT]
theorem cX2(g:List V×List V)(b:Grp):mF (g::b)=bK g.2 g.1++mF b:=by
 have:mF (g::b)=appR (bK g.2 g.1) (mF b):=rfl;rw[this,bT]
def aP0{e:Grp}{k:Nat}:k∈ownG e↔∃b q,PosG e b q k:=by
 induction e with
 |nil=>
  have:ownG [] =[] :=rfl;rw[this];constructor;intro h;cases h;rintro⟨b,q,g,h,_⟩;simp at h
 |cons g e j=>
  rw[bT5,Pv,j,aT8];constructor;rintro(⟨q,h⟩|⟨b,q,h⟩);exact⟨0,q,g,rfl,h⟩;obtain⟨i,c,f⟩:=h;exact⟨b+1,q,i,c,f⟩;rintro⟨b,q,i,c,f⟩;cases b with
  |zero=>simp at c;subst c;exact .inl ⟨q,f⟩
  |succ b=>exact .inr ⟨b,q,i,c,f⟩
theorem aS8{b:Grp}{k:Nat}:k∈mF b↔∃(c:Nat) (g:List V×List V),b[c]? =some g/\k∈bK g.2 g.1:=by
 induction b with
 |nil=>
  have:mF [] =[] :=rfl;simp_all
 |cons g b j=>
  rw[cX2,Pv,j];constructor;rintro(h|⟨c,e,f,i⟩);exact⟨0,g,rfl,h⟩;exact⟨c+1,e,f,i⟩;grind
theorem aA3{f:Grp}(t:(ownG f).Nodup){c q b i k:Nat}(h:PosG f c q k)(r:PosG f b i k):c=b/\q=i:=by
 induction f generalizing c b with
 |nil=>obtain⟨g,h,_⟩:=h;simp at h
 |cons g f u=>
  rw[bT5,List.nodup_append]at t;obtain⟨A,v,x⟩:=t
  have e:∀ {c q i},PosG (g::f) 0 q k->PosG (g::f) (c+1) i k->False:=by
   rintro c q i ⟨s,j,l⟩ ⟨p,m,n⟩;simp at j;subst j;exact x k (aT8.2 ⟨q,l⟩) k (aP0.2 ⟨c,i,p,by simpa using m,n⟩) rfl
  cases c with
  |zero=>
   cases b with
   |zero=>
    obtain⟨s,j,l⟩:=h;obtain⟨p,m,n⟩:=r;grind [aK3]
   |succ b=>exact(e h r).elim
  |succ c=>
   cases b with
   |zero=>exact(e r h).elim
   |succ b=>
    obtain⟨s,j,l⟩:=h;obtain⟨p,m,n⟩:=r;obtain⟨y,z⟩:=u v ⟨s,by simpa using j,l⟩ ⟨p,by simpa using m,n⟩;simp_all
def aB1{ar:Nat->Option AE}{is:List Nat}:∀ {ys xs:List V},bI2 T ar is ys xs->xs.length=ys.length/\∀(i:Nat) x y,xs[i]? =some x->ys[i]? =some y->aP8 T ar is x y:=by
 intro ys;induction ys with
 |nil=>
  intro xs h;exact MI
 |cons y r e=>
  intro xs h;cases xs with
  |nil=>exact(h:False).elim
  |cons x xr=>
   obtain⟨b,c⟩:aP8 T ar is x y/\bI2 T ar is r xr:=h;grind
def dO7{is:List Nat}:∀ {ys xs:List V},refL is ys xs->xs.length=ys.length/\∀(i:Nat) x y,xs[i]? =some x->ys[i]? =some y->bU9 is x y:=by
 intro ys;induction ys with
 |nil=>
  intro xs h;exact MI
 |cons y r e=>
  intro xs h;cases xs with
  |nil=>exact(h:False).elim
  |cons x xr=>
   obtain⟨b,c⟩:bU9 is x y/\refL is r xr:=h;grind
def aJ8{ar:Nat->Option AE}{is:List Nat}:∀ {b:Grp},xM T ar is b->∀(c:Nat) (g:List V×List V),b[c]? =some g->bI2 T ar is g.2 g.1:=by
 intro b;induction b with
 |nil=>intro _ c g h;simp at h
 |cons e b k=>
  intro h c g j;obtain⟨f,i⟩:bI2 T ar is e.2 e.1/\xM T ar is b:=h;grind
def aR3{bx:Nat->Option (List V)}:∀ {bs:List (List V)} {is:List Nat},is.length=bs.length->∀(j:Nat) (g:List V×List V),(eU bx bs is)[j]? =some g↔∃(i:Nat) (b:List V),is[j]? =some i/\bs[j]? =some b/\g=((bx i).getD [],b):=by
 intro bs;induction bs with
 |nil=>
  intro is _ j g;have:eU bx [] is=[] :=rfl;rw[this];simp
 |cons b r h=>
  intro is f j g;cases is with
  |nil=>simp at f
  |cons i c=>
   have e:eU bx (b::r) (i::c)=((bx i).getD [],b)::eU bx r c:=by
    show((match bx i with|some cs=>cs|none=> []),b)::eU bx r c=_;cases bx i<;>rfl
   grind
def dQ1{n j:Nat}{v:Value}{y:V}(h:Rb T w G j v y):RbB T w G n j v y:=by
 unfold Rb at h;unfold RbB;split;exact h;exact h;rename_i b c;split at h;exact(b _ _ rfl).elim;exact(c _ _ rfl).elim;exact⟨V.pure.ok h.1 _ _,h.2⟩
def aW7(inv:Inv T Φ σ a w G)(s:Keep w w G G'){is:List Nat}(Q:∀b i,nth is (b-100000)=some i->100000<=b->G'.β b=G.β i){v:Value}{x y:V}{j:Nat}(h:aP8 T σ.ar is x y)(hv:Rv w G v x)(hok:x.ok σ.hasB σ.hasA)
 (t:linear y=false->∀k∈jQ x,∀b,G.O b= .ar k->G'.O b= .fz)(m:linear y=true->∀k∈jQ x,∀b,G.O b= .ar k->G'.O b= .ar j):RbB T w G' is.length j v y:=by
 have B:∀ {v:Value} {x y:V},bU9 is x y->Rv w G v x->x.ok σ.hasB σ.hasA->y.ok (λi=>100000<=i/\i<100000+is.length) (λ_ _=>False)/\Rv w G' v y:=by
  intro v x y h hv hok;unfold bU9 at h;split at h;rename_i b off;split at h;rename_i i S;obtain⟨U,W,rfl⟩:=h;have X:100000<=b:=QA W;have n:nth is (b-100000)=some i:=U;have Y:b-100000<is.length:=by rw[uN]at n;exact(Pg.1 n).1
  refine⟨by simp only[V.ok];omega,?_⟩;rw[hv.bI6,<-Q b i n X];exact .box b _;exact h.elim;split at h;subst h;simp only[V.ok]at hok;exact⟨by simp only[V.ok];exact hok,hv.aW s BA⟩;exact h.elim;split at h;subst h;exact⟨Bq,by rw[hv.bH];exact .lit _ hv.aZ3⟩;exact h.elim;split at h;exact nomatch hv
  exact h.elim;exact h.elim
 unfold aP8 at h;split at h
 ·exact⟨Bq, .bot v⟩
 ·exact B h hv hok
 ·rename_i g ys
  split at h
  ·rename_i D xs
   cases u:isMapC ys with
   |true=>
    rw[u]at h;obtain⟨rfl,rfl⟩:D=g/\xs=ys:=h;have R:=fn_atom_pure (g:=D) (l:=xs) (by show cond (isMapC xs) true _=true;rw[u];rfl) hok;exact⟨R.ok _ _,hv.aW s R⟩
   |false=>
   rw[u]at h;obtain⟨rfl,h⟩:D=g/\refL is ys xs:=h;obtain⟨hl,I⟩:=dO7 h
   have N:isFnC xs=true:=by
    cases xs with
    |nil=>rfl
    |cons Z xr=>
     cases Z with
     |ap e l=>
      cases ys with
      |nil=>simp at hl
      |cons y0 yr=>
       have E:=I 0 (.ap e l) y0 rfl rfl;unfold bU9 at E;split at E<;>exact E.elim
     |_=>rfl
   rcases hv.cU8 N with⟨J,L,e2,M⟩|⟨H,cs,L,rfl,e2,M⟩;rotate_left
   ·obtain⟨C,rfl⟩:∃C,ys= .own 0 [] ::C:=by
     cases ys with
     |nil=>simp at hl
     |cons z C=>
      have E:=I 0 (.own 0 []) z rfl rfl;unfold bU9 at E;grind
    simp only[V.ok,V.okL]at hok
    have f:∀(i:Nat) c y,H[i]? =some c->C[i]? =some y->y.ok (λi=>100000<=i/\i<100000+is.length) (λ_ _=>False)/\Rv w G' c y:=by
     intro i c y q hy;have hi:i<cs.length:=by simp only[PE]at hl;have:=(Pg.1 hy).1;omega
     have A:=Pj hi;exact B (I (i+1) _ y A hy) (M i c _ q A) (aH.1 hok.2 _ (Pn A))
    have F:cs.length=C.length:=by simp only[PE]at hl;omega
    refine⟨?_,?_⟩
    ·simp only[V.ok,V.okL]
     refine⟨trivial,aH.2 λy hy=>?_⟩;obtain⟨i,hi⟩:=P7 hy;have r:i<H.size:=by rw[e2,F];exact(Pg.1 hi).1
     exact(f i H[i] y (by simp[r]) hi).1
    ·rw[L]
     exact .fb D H C (by rw[e2,F]) λi c y q hy=>(f i c y q hy).2
   simp only[V.ok]at hok
   have f:∀(i:Nat) c y,J[i]? =some c->ys[i]? =some y->y.ok (λi=>100000<=i/\i<100000+is.length) (λ_ _=>False)/\Rv w G' c y:=by
    intro i c y q hy;have hi:i<xs.length:=E5;have A:=Pj hi;exact B (I i _ y A hy) (M i c _ q A) (aH.1 hok _ (Pn A))
   refine⟨?_,?_⟩
   ·simp only[V.ok]
    refine aH.2 λy hy=>?_;obtain⟨i,hi⟩:=P7 hy;have r:i<J.size:=Ej;exact(f i J[i] y (by simp[r]) hi).1
   ·rw[L]
    exact .fn D J ys (by rw[e2,hl]) λi c y q hy=>(f i c y q hy).2
  ·exact h.elim
 ·exact dQ1 (aJ2 inv s h hv hok t m)
def oM(bx:Nat->Option (List V))(is:List Nat):List Mod:=is.map λi=> .b i (((bx i).getD []).map λ_=>V.bot)
theorem bX5(bx:Nat->Option (List V)):∀(is:List Nat) (τ:St) (i:Nat),(τ.apps (oM bx is)).bx i=if i∈is then some (((bx i).getD []).map λ_=>V.bot)else τ.bx i:=by
 intro is;induction is with
 |nil=>intro τ i;simp[oM,St.apps]
 |cons j r g=>
  intro τ i;have e:τ.apps (oM bx (j::r))=((Mod.b j (((bx j).getD []).map λ_=>V.bot)).app τ).apps (oM bx r):=rfl;rw[e,g];by_cases c:i∈r;simp[c];by_cases f:i=j;subst f;simp only[c,Rx,P5,true_or,QM];exact upd_same _ _ _;simp only[c,f,Rx,P5,or_self];exact upd_ne _ _ f
theorem dI5(bx:Nat->Option (List V)):∀(is:List Nat) (τ:St),(τ.apps (oM bx is)).ar=τ.ar:=by
 intro is;induction is with
 |nil=>intro τ;rfl
 |cons j r c=>
  intro τ;have e:τ.apps (oM bx (j::r))=((Mod.b j (((bx j).getD []).map λ_=>V.bot)).app τ).apps (oM bx r):=rfl;rw[e,c];rfl
def aL0{bx:Nat->Option (List V)}{c:Grp}{is:List Nat}{bs:List (List V)}{r:V}(h:zA bx c is bs r=true):
 (ownG c).Nodup/\(∀k∈ownG c,k∉mF c)/\is.Nodup/\is.length=bs.length/\(∀i∈is,∃cs,bx i=some cs)/\(∀b∈bs,b.length<1000)/\is.length<=8/\∀e,r= .tup e->e.length<1000:=by
 unfold zA at h;simp only[Px]at h;obtain⟨⟨⟨⟨⟨⟨⟨g,m⟩,j⟩,n⟩,l⟩,p⟩,f⟩,q⟩:=h;refine⟨uU.1 g,λk t u=>?_,uU.1 j,?_,λi hi=>?_,λb s=>?_,?_,?_⟩
 ·grind [dY,pM]
 ·grind [Qp,iL]
 ·have:=dY.1 l i hi
  unfold isS at this;grind
 ·simp_all [dY,iL]
 ·rw[iL]at f
  exact QA f
 ·rintro e rfl;simp_all [iL]
set_option maxHeartbeats 1600000 in
def cS4(inv:Inv T Φ σ a w G){f:FuncId}{us:List Value}{xs:List V}(bq:us.length=xs.length)(hrel:∀(i:Nat) v x,us[i]? =some v->xs[i]? =some x->Rv w G v x/\x.ok σ.hasB σ.hasA){ys:List V}{is:List Nat}{bs:List (List V)}{r:V}{z:List (List V)}
 {gs:Grp}(a6:gs=(xs,ys)::eU σ.bx bs is)(au:xM T σ.ar is gs)(a3:zA σ.bx gs is bs r=true)(H:aU2 T P f ys bs r z):
 Calls P f us.toArray w λe w1=>∃v A G2,e= .returned v/\RrB T w1 A bs.length v r/\BxOk T w1 A z/\Inv T Φ (σ.apps (aV σ (mF gs)++aX σ (ownG gs)++oM σ.bx is)) a w1 G2/\
  (∀t b,A.O b= .ar t->G2.O b= .ext/\Φ.mine b/\b<w1.heap.size)/\Keep w1 w1 A G2/\(∀(j:Nat) i,is[j]? =some i->G2.β i=A.β (100000+j))/\
  (∀k,(σ.apps (aV σ (mF gs)++aX σ (ownG gs)++oM σ.bx is)).ar k=if k∈ownG gs then(σ.ar k).map bJ2 else if k∈mF gs then(σ.ar k).map frzE else σ.ar k)/\G2.av=G.av:=by
 obtain⟨bk,hlens,H⟩:=H;obtain⟨bw,bl,bo,hil,a7,bi,bv,_⟩:=aL0 a3;have hbl:z.length=bs.length:=Dk;have g0:gs[0]? =some (xs,ys):=by rw[a6];rfl
 have gj:∀(j:Nat) (i:Nat) b,is[j]? =some i->bs[j]? =some b->gs[j+1]? =some ((σ.bx i).getD [],b):=by
  intro j i b h1 s;rw[a6,Qi];exact(aR3 hil j _).2 ⟨i,b,h1,s,rfl⟩
 have X:∀(γ:Nat) (g:List V×List V),gs[γ]? =some g->g.1.length=g.2.length/\∀(q:Nat) x y,g.1[q]? =some x->g.2[q]? =some y->aP8 T σ.ar is x y:=λγ g hg=>aB1 (aJ8 au γ g hg);generalize hok:ownG gs=ok at*;generalize br:mF gs=Z at*;let ad:Nat->Nat:=λk=> @dite _ (∃t,∃γ q,t=100000*γ+q/\PosG gs γ q k) (Classical.propDecidable _) (λh=>h.choose) (λ_=>0)
 have hpos:∀ {γ q k},PosG gs γ q k->ad k=100000*γ+q:=by
  intro γ q k hp;exact NZ
 let I:Nat->Nat:=λi=> @dite _ (∃j,is[j]? =some i) (Classical.propDecidable _) (λh=>h.choose) (λ_=>0)
 have bj:∀ {j i:Nat},is[j]? =some i->I i=j:=by
  intro j i hj;have hex:∃j,is[j]? =some i:=⟨j,hj⟩;have S:I i=hex.choose:=by simp only[I];rw[dif_pos hex]
  rw[S];have s:=hex.choose_spec;have F:=(Pg.1 hj).1;exact(List.getElem?_inj (Pg.1 s).1 bo).1 (s.trans hj.symm)
 let Gc:Gh:={β:=λb=>if 100000<=b then G.β (nthD is (b-100000))else G.β b,av:=G.av,O:=λb=>match G.O b with| .fz=> .fz| .ar k=>if k∈Z then .fz else if k∈ok then .ar (ad k)else .ext| .bx i=>if i∈is/\b=G.β i then .bx (100000+I i)else .ext| .ext=> .ext};have J:∀b,G.O b= .fz->Gc.O b= .fz:=λb hb=>BG;have af:∀b i,G.O b= .bx i->¬(i∈is/\b=G.β i)->Gc.O b= .ext:=λb i hb hi=>by simp only[Gc];rw[hb];simp only;rw[Ph hi]
 have ae:∀b (j:Nat) i,G.O b= .bx i->is[j]? =some i->b=G.β i->Gc.O b= .bx (100000+j):=λb j i hb hj he=>by
  grind
 have R:∀b,G.O b= .ext->Gc.O b= .ext:=λb hb=>BG;have ag:∀b k,G.O b= .ar k->k∈Z->Gc.O b= .fz:=λb k hb hk=>Dj
 have c_ok:∀b k,G.O b= .ar k->k∈ok->Gc.O b= .ar (ad k):=λb k hb hk=>by
  grind
 have a0:∀b k,G.O b= .ar k->k∉Z->k∉ok->Gc.O b= .ext:=λb k hb h1 s=>by simp only[Gc];rw[hb];simp[h1,s]
 have al:∀b i,nth is (b-100000)=some i->100000<=b->Gc.β b=G.β i:=by
  intro b i h1 s;simp only[Gc];rw[Pm s];unfold nthD;rw[h1]
 have D:∀(j:Nat) i,is[j]? =some i->Gc.β (100000+j)=G.β i:=by
  intro j i hj;refine al _ i ?_ Aa;grind [uN]
 have n:∀b,(Gc.O b= .fz/\(G.O b= .fz\/∃k∈Z,G.O b= .ar k))\/(∃k∈ok,G.O b= .ar k/\Gc.O b= .ar (ad k))\/(∃(j:Nat) (i:Nat),is[j]? =some i/\(G.O b= .bx i/\b=G.β i)/\Gc.O b= .bx (100000+j))\/Gc.O b= .ext:=by
  intro b;cases hO:G.O b with
  |ext=>exact .inr (.inr (.inr (R b hO)))
  |fz=>exact .inl ⟨J b hO, .inl rfl⟩
  |bx i=>
   by_cases hi:i∈is/\b=G.β i;obtain⟨j,hj⟩:=P7 hi.1;exact .inr (.inr (.inl ⟨j,i,hj,⟨rfl,hi.2⟩,ae b j i hO hj hi.2⟩));exact .inr (.inr (.inr (af b i hO hi)))
  |ar k=>
   grind
 have bm:Keep w w G Gc:=⟨J,λ_ _=>rfl⟩;have az:∀b,Gc.O b≠ .ext->b<w.heap.size:=λb hb=>inv.tag b (λhO=>hb (R b hO))
 have N:∀(j:Nat) i,is[j]? =some i->∃cs c t,σ.bx i=some cs/\w.heap[G.β i]? =some (.cells c t (0,0))/\RvL w G c.toList cs/\G.O (G.β i)= .bx i:=by
  intro j i hj;obtain⟨cs,a4⟩:=a7 i (Pn hj);obtain⟨c,t,q1,q2,q3⟩:=inv.box i cs a4;exact⟨cs,c,t,a4,q1,q2,q3⟩
 have a2:∀b i,Gc.O b= .bx i->100000<=i/\i<100000+bs.length/\b=Gc.β i:=by
  intro b i' hb;rcases n b with⟨h,_⟩|⟨k,_,_,h⟩|⟨j,i,h1,s,U⟩|h;rw[h]at hb;cases hb;rw[h]at hb;cases hb;rw[U]at hb;cases hb;grind;rw[h]at hb;cases hb
 have ai:∀(γ q:Nat) (g:List V×List V) (v:Value) (x y:V),gs[γ]? =some g->g.1[q]? =some x->g.2[q]? =some y->Rv w G v x->x.ok σ.hasB σ.hasA->RbB T w Gc is.length (100000*γ+q) v y:=by
  intro γ q g v x y hg hx hy hv bt;refine aW7 inv bm al ((X γ g hg).2 q x y hx hy) hv bt (λhl k hk b hb=>?_) (λhl k hk b hb=>?_);exact ag b k hb (by rw[<-br];exact aS8.2 ⟨γ,g,hg,nP.2 ⟨q,x,y,hx,hy,hl,hk⟩⟩);exact KN
 have ao:∀(j:Nat) v y,us.toArray[j]? =some v->ys[j]? =some y->RbB T w Gc bs.length j v y:=by
  intro j v y hv hy;have hj:j<xs.length:=by rw[(X 0 _ g0).1];exact(Pg.1 hy).1
  have hx:xs[j]? =some xs[j] :=Pj hj;obtain⟨S,e2⟩:=hrel j v _ AZ hx;have:=ai 0 j (xs,ys) v _ y g0 hx hy S e2;rwa [Nat.mul_zero,QD,hil]at this
 have aq:BxOk T w Gc bs:=by
  intro j b hb;have hj:j<is.length:=by rw[hil];exact(Pg.1 hb).1
  have hi:is[j]? =some is[j] :=Pj hj;obtain⟨cs,c,t,q1,q2,q3,q4⟩:=N j _ hi;have hg:=gj j _ b hi hb;have aa:=(X _ _ hg).1;rw[q1]at hg aa;simp only[QT]at hg aa;refine⟨?_,c,t,?_,?_,?_⟩;rw[D j _ hi];exact ae _ j _ q4 hi rfl;rw[D j _ hi];exact q2;rw[<-aa,<-q3.len];simp;intro q v y hv hy;have hq:q<cs.length:=by rw[aa];exact(Pg.1 hy).1
  have hx:cs[q]? =some cs[q] :=Pj hq;have bd:c.toList[q]? =some v:=AZ;refine⟨q3.one v (Pn bd),?_⟩;rw[<-hil];exact ai (j+1) q _ v _ y hg hx hy (q3.rel q v _ bd hx) (aH.1 (inv.wfB _ cs q1) _ (Pn hx))
 have a9:T.lay w (λb=>Gc.O b= .fz):=T.lay_mono (λb hb=>⟨J b (inv.F0 b hb),inv.frame b (inv.lay.2 b hb).1 (inv.lay.2 b hb).2⟩) inv.lay.1
 have bu:us.toArray.size=ys.length:=by
  have:=(X 0 _ g0).1;simp only[List.size_toArray];exact bq.trans this
 refine(H w Gc us.toArray bu az a2 aq ao a9).mono ?_;rintro e w1 ⟨v,A,rfl,bc,W,Y,r1,r2,r4,r5,r6,r7,r8,r9⟩;have F:∀b,G.O b≠ .ext->b<w.heap.size:=inv.tag
 have Q:∀b,b<w.heap.size->(∀k,G.O b= .ar k->k∉ok)->(∀i,G.O b= .bx i->¬(i∈is/\b=G.β i))->w1.heap[b]? =w.heap[b]? :=λb hb hh ab=>r5 b hb (λj hj=>by
  rcases n b with⟨h,_⟩|⟨k,h1,s,_⟩|⟨j,i,h1,s,U⟩|h;rw[h]at hj;cases hj;exact hh k s h1;rw[U]at hj;cases hj
  rw[h]at hj;cases hj) (λi' B=>by
  rcases n b with⟨h,_⟩|⟨k,_,_,h⟩|⟨j,i,h1,s,U⟩|h;rw[h]at B;cases B;rw[h]at B;cases B;exact ab i s.1 ⟨Pn h1,s.2⟩
  rw[h]at B;cases B)
 have M:∀b,b<w.heap.size->Gc.O b= .ext->A.O b= .ext:=by
  intro b hb hc;cases hO:A.O b with
  |ext=>rfl
  |_=>
   exfalso;rcases r4 b (by rw[hO];simp)with⟨h1,_⟩|h1|⟨j,h1⟩|⟨i,h1,_⟩;rw[hc]at h1;cases h1;omega;rw[hc]at h1;cases h1;rw[hc]at h1;cases h1
 have an:∀b (j:Nat) i,is[j]? =some i->b=G.β i->A.O b= .bx (100000+j):=by
  intro b j i hj bh;have C:j<z.length:=DK;have:=(W j z[j] (Pj C)).1;rw[Y j (by rw[<-hbl];exact C),D j i hj,<-bh]at this;exact this
 let G2:Gh:={G with O:=λb=> @ite _ (A.O b= .fz) (Classical.propDecidable _) .fz (match G.O b with| .bx i=> .bx i| .ar k=>if k∈ok then .ext else .ar k|_=> .ext)};have L:∀b,A.O b= .fz->G2.O b= .fz:=λb h1=>by simp only[G2];rw[Pm h1]
 have d_else:∀b,A.O b≠ .fz->G2.O b=(match G.O b with| .bx i=> .bx i| .ar k=>if k∈ok then .ext else .ar k|_=> .ext):=λb h=>by simp only[G2];rw[Ph h]
 have am:∀b,G.O b= .fz->G2.O b= .fz:=λb hb=>L b (r1 b (J b hb))
 have ah:∀b i,G.O b= .bx i->G2.O b= .bx i:=λb i hb=>by
  have hne:A.O b≠ .fz:=by
   by_cases hi:i∈is/\b=G.β i;obtain⟨j,hj⟩:=P7 hi.1;rw[an b j i hj hi.2];simp;rw[M b (F b Aw) (af b i hb hi)];simp
  rw[d_else b hne,hb]
 have a1:∀b k,G.O b= .ar k->k∉ok->k∉Z->G2.O b= .ar k:=λb k hb h1 s=>by
  have hne:A.O b≠ .fz:=by rw[M b (F b (by rw[hb];simp)) (a0 b k hb s h1)];simp
  rw[d_else b hne,hb];simp[h1]
 have hkeep:Keep w w1 G G2:=⟨am,λb hb=>Q b (F b Aw) (λk hk=>by rw[hb]at hk;cases hk) (λi hi=>by rw[hb]at hi;cases hi)⟩;let fm:List Mod:=aV σ Z;let dm:List Mod:=aX σ ok
 have bn:∀m∈fm++dm,∃k en,m= .a k en:=by
  intro m hm;rcases Pv.1 hm with hm|hm;exact bF7 σ Z m hm;exact aS3 σ ok m hm
 have ak:∀i,(σ.apps (fm++dm++oM σ.bx is)).bx i=if i∈is then some (((σ.bx i).getD []).map λ_=>V.bot)else σ.bx i:=λi=>by
  rw[dO,bX5,aR5 σ _ bn]
 have aj:∀k,(σ.apps fm).ar k=if k∈Z then(σ.ar k).map frzE else σ.ar k:=λk=>cH2 σ σ Z (λ_=> .inl rfl) k
 have har2:∀k,(σ.apps (fm++dm++oM σ.bx is)).ar k=if k∈ok then(σ.ar k).map bJ2 else if k∈Z then(σ.ar k).map frzE else σ.ar k:=by
  intro k;rw[dO,dI5,dO,bP7 σ (σ.apps fm) ok (λk' ax hn=>by rw[aj,hn];simp) k,aj]
 have hgen:∀k en,σ.ar k=some en->∃en2,(σ.apps (fm++dm++oM σ.bx is)).ar k=some en2/\en2.gen=en.gen:=by
  intro k en hen;exact OU
 have bg:∀k g,σ.hasA k g->(σ.apps (fm++dm++oM σ.bx is)).hasA k g:=λk g ⟨en,h1,s⟩=>by
  exact OC
 have bf:Inv T Φ (σ.apps (fm++dm++oM σ.bx is)) a w1 G2:=by
  refine inv.change (vM σ _) hkeep (λ_ _=>rfl) (λ_ _ _=>rfl) (λi hi=>?_) bg ?_ ?_ ?_ ?_ ?_ r6 r7 r8 r9;obtain⟨x,hx⟩:=hi;unfold St.hasB;rw[ak];split;exact⟨_,rfl⟩;exact⟨x,hx⟩;intro i cs hi;rw[ak]at hi;split at hi;rename_i aw;cases hi;obtain⟨j,hj⟩:=P7 aw;obtain⟨cs,c0,t0,q1,q2,q3,q4⟩:=N j i hj;have C:j<z.length:=DK;obtain⟨p1,c,t,p2,p3,p4⟩:=W j z[j] (Pj C);have be:A.β (100000+j)=G.β i:=by rw[Y j (by rw[<-hbl];exact C),D j i hj]
  rw[be]at p2;have a8:j<bs.length:=by rw[<-hbl];exact C
  have ba:z[j].length=cs.length:=by
   have S:(z.map List.length)[j]? =some z[j].length:=by simp[C]
   rw[hlens]at S;have e2:(bs.map List.length)[j]? =some bs[j].length:=by simp[a8]
   rw[e2]at S;have:=(X _ _ (gj j i bs[j] hj (Pj a8))).1;rw[q1]at this;simp only[QT]at this;rw[this];exact(Q5 S).symm
  refine .inr ⟨⟨c,t,p2,⟨?_,?_,?_⟩,ah _ i q4⟩,?_⟩;rw[q1];simp[p3,ba];intro u hu;obtain⟨q,hq⟩:=P7 hu;have bp:q<z[j].length:=by rw[<-p3];simpa using(Pg.1 hq).1
  exact(p4 q u _ CP (Pj bp)).1;intro q u x hu hx;rw[PK]at hx;cases hy:((σ.bx i).getD [])[q]? with
  |none=>rw[hy]at hx;cases hx
  |some y=>rw[hy]at hx;simp only[Qg,Ql]at hx;subst hx;exact .bot u
  refine aH.2 λx hx=>?_;obtain⟨y,_,rfl⟩:=PI.1 hx;simp only[V.ok];rename_i aw;obtain⟨c,t,q1,q2,q3⟩:=inv.box i cs hi;exact .inl ⟨hi,ah _ i q3,Q _ (F _ FU) (λk hk=>by rw[q3]at hk;cases hk) (λi' B=>by rw[q3]at B;cases B;exact λh=>aw h.1)⟩;intro k en hen;rw[har2]at hen;by_cases hk1:k∈ok;exact Jy;rw[Ph hk1]at hen;have E:∀b,G.O b= .ar k->w1.heap[b]? =w.heap[b]? :=λb hb=>Q b (F b Aw) (λk' ax=>by rw[hb]at ax;cases ax;exact hk1) (λi hi=>by rw[hb]at hi;cases hi);by_cases ac:k∈Z;rw[Pm ac]at hen;cases hs:σ.ar k with
  |none=>rw[hs]at hen;cases hen
  |some en0=>
   rw[hs]at hen;simp at hen;have hp:=inv.wfA k en0 hs;have hokk:=inv.arr k en0 hs;have a5:∀b,G.O b= .ar k->G2.O b= .fz:=λb hb=>L b (r1 b (ag b k hb ac))
   have own:∀ {ty},gJ T w G k (G.av k en0.gen) ty en0.l->Rv w1 G2 (G.av k en0.gen) (.sl en0.l):=by
    intro ty bb;rcases bb with⟨S,e2⟩|⟨b,cap,cur,S,e2,e3,e4,e5,e6,e7,e8⟩;rw[e2];exact bA2 S;obtain⟨cc,q1,q2⟩:=(e8.here e3).out;rw[S];refine .slS _ cap en0.l _ cc e4 e5 (λ_=>a5 b e2) e7 (λj y hy=>?_) (λj y hy=>(q2 j y hy).aW hkeep (dF hp hy));refine⟨?_,(q1 j y hy).2⟩;rw[<-(q1 j y hy).1];exact World.cell?_of_block (by rw[add_block];exact E b e2)
   exact LW
  rw[Ph ac]at hen;exact .inl ⟨hen,λb hb=>⟨a1 b k hb hk1 ac,E b hb⟩⟩;intro b hb;by_cases hc:A.O b= .fz;exact r2 b (by rw[hc];simp);rw[d_else b hc]at hb;have:G.O b≠ .ext:=by intro hO;rw[hO]at hb;exact hb rfl
  have:=F b this;omega;intro b;by_cases hc:A.O b= .fz;rcases r4 b (by rw[hc];simp)with⟨h1,_⟩|h1|⟨j,h1⟩|⟨i,_,s⟩;rcases n b with⟨_,s|⟨k,s,U⟩⟩|⟨k,_,_,h⟩|⟨j,i,_,_,h⟩|h;exact .inl (by rw[L b hc,s]);exact .inr (.inr (inv.mineA b k U));rw[h1]at h;cases h;rw[h1]at h;cases h;rw[h1]at h;cases h;exact .inr (.inr (.inl (PD inv.size h1)));rcases n b with⟨h,_⟩|⟨k,_,U,_⟩|⟨j,i,_,_,h⟩|h;rw[h1]at h;cases h;exact .inr (.inr (inv.mineA b k U));rw[h1]at h;cases h;rw[h1]at h;cases h;rw[hc]at s;cases s;exact Jw;intro b;rcases Qx b w.heap.size with hb|hb;by_cases hh:∃k∈ok,G.O b= .ar k;obtain⟨k,_,s⟩:=hh;exact .inr (inv.mineA b k s);by_cases ab:∃i∈is,G.O b= .bx i;obtain⟨i,_,s⟩:=ab;exact .inr (inv.mineB b i s);exact .inl (Q b hb (λk hk hm=>hh ⟨k,hm,hk⟩) (λi hi hm=>ab ⟨i,hm.1,hi⟩));exact .inr (.inl (PD inv.size hb))
 have ay:∀t b,A.O b= .ar t->G2.O b= .ext/\Φ.mine b/\b<w1.heap.size:=by
  intro t b hb;have hne:A.O b≠ .fz:=Aw;have hsz:=r2 b Aw;rcases r4 b Aw with⟨_,h1⟩|h1|⟨j,h1⟩|⟨i,_,h1⟩;rw[hb]at h1;cases h1;exact JZ;rcases n b with⟨h,_⟩|⟨k,s,U,_⟩|⟨j,i,_,_,h⟩|h;rw[h1]at h;cases h;exact⟨by rw[d_else b hne,U];simp[s],inv.mineA b k U,hsz⟩;rw[h1]at h;cases h;rw[h1]at h;cases h;rw[hb]at h1;cases h1
 refine⟨v,A,G2,rfl,bc,W,bf,ay,⟨L,λ_ _=>rfl⟩,λj i hj=>?_,har2,rfl⟩;have C:j<bs.length:=Em;rw[Y j C,D j i hj]
end
end Go.Ab
