/-
  A call by its contract.
-/
import Derived.Test.YtdjgbagnajikeaaGreatDoorA5
set_option linter.unusedVariables false
set_option linter.unusedSimpArgs false
noncomputable section
namespace Go.Ab
section
variable{T:Tab}{P:Program}{Φ:Fr}{σ:St}{a:Act}{w w':World}{G G':Gh}{K:VK}{o:Oper}{d:Nat}
theorem uU{l:List Nat}:aE7 l=true↔l.Nodup:=by
 induction l<;>grind [List.nodup_cons,pM,aE7]
def zW(xs ys:List V)(j k:Nat):Prop:=∃x y,xs[j]? =some x/\ys[j]? =some y/\linear y=true/\k∈jQ x
theorem aK3:∀ {ys xs:List V},(bD ys xs).Nodup->∀ {j b k:Nat},zW xs ys j k->zW xs ys b k->j=b:=by
 intro ys
 induction ys with
 |nil=>rintro xs _ j b k ⟨x,y,_,h,_⟩;simp at h
 |cons y r q=>
  intro xs n j b k h p
  cases xs with
  |nil=>obtain⟨x,y,h,_⟩:=h;simp at h
  |cons x xr=>
   have c:bD (y::r) (x::xr)=appR (cond (linear y) (jQ x) []) (bD r xr):=rfl;rw[c,bT,List.nodup_append]at n;obtain⟨_,s,D⟩:=n
   have e:∀ {j},zW (x::xr) (y::r) (j+1) k->zW (x::xr) (y::r) 0 k->False:=by
    rintro j ⟨f,m,g,l,i,v⟩ ⟨u,B,t,A,C,z⟩;grind [oZ]
   cases j with
   |zero=>
    cases b<;>simp_all
   |succ j=>
    cases b with
    |zero=>exact(e h p).elim
    |succ b=>
     have:j=b:=q s (by obtain⟨f,m,g,l,i⟩:=h;exact⟨f,m,by simpa using g,by simpa using l,i⟩) (by obtain⟨f,m,g,l,i⟩:=p;exact⟨f,m,by simpa using g,by simpa using l,i⟩)
     rw[this]
def bJ2(en:AE):AE:=⟨en.gen, .dead,en.ty,[]⟩
theorem bP7(σ σ':St)(e:List Nat):(∀k∈e,σ.ar k=none->σ'.ar k=none)->∀k,(σ'.apps (aX σ e)).ar k=if k∈e then(σ.ar k).map bJ2 else σ'.ar k:=by
 induction e generalizing σ' with
 |nil=>intro _ k;simp[aX,St.apps]
 |cons x r l=>
  intro m k;have c:aX σ (x::r)=(match σ.ar x with|some en=>Mod.a x ⟨en.gen, .dead,en.ty,[]⟩::aX σ r|none=>aX σ r):=rfl
  rw[c]
  cases g:σ.ar x with
  |none=>
   grind
  |some en=>
   simp only;have j:σ'.apps (Mod.a x ⟨en.gen, .dead,en.ty,[]⟩::aX σ r)=((Mod.a x ⟨en.gen, .dead,en.ty,[]⟩).app σ').apps (aX σ r):=rfl;rw[j,l _ (λf i b=>?_) k]
   ·by_cases h1:k∈r
    ·simp[h1]
    ·by_cases h2:k=x
     ·subst h2
      simp only[h1,Ue,QO,true_or,TQ];show upd σ'.ar k _ k=_;rw[upd_same,g];rfl
     ·exact L6
   ·show upd σ'.ar x _ f=_
    have:f≠x:=by rintro rfl;rw[g]at b;cases b
    grind [upd_ne]
theorem aS3(σ:St)(e:List Nat):∀m∈aX σ e,∃k en,m= .a k en:=by
 induction e with
 |nil=>intro m b;cases b
 |cons x r f=>
  intro m b;have c:aX σ (x::r)=(match σ.ar x with|some en=>Mod.a x ⟨en.gen, .dead,en.ty,[]⟩::aX σ r|none=>aX σ r):=rfl
  grind
theorem bG6{v:Value}{y:V}(f:sS y=true)(h:Rv w G v y):Rv w G' v y:=by
 cases y with
 |lit u=>rw[h.bH];exact .lit u h.aZ3
 |agg cs=>
  have b:allR bR6 cs=true:=f;rw[dY]at b;obtain⟨vs,j,m,k,l⟩:=h.zV;rw[j];refine .agg vs cs m k λi c x g e=>?_;have:=b x (QF e)
  cases x with
  |lit u=>have:=l i c _ g e;rw[this.bH];exact .lit u this.aZ3
  |_=>simp[bR6]at this
 |_=>simp[sS]at f
theorem cZ3{b:List Nat}{k g:Nat}(h:reuse σ b=some (k,g)):∃en,σ.ar k=some en/\g=en.gen+1:=by
 unfold reuse at h;grind
theorem cA5{y:V}(h:sS y=true):linear y=false:=by cases y<;>first|rfl|(simp[sS]at h)
theorem aW9{y:V}(h:aH7 y=true)(b:∀rs,y= .tup rs->False):sS y=true:=by
 cases y with
 |tup rs=>exact(b rs rfl).elim
 |lit u=>rfl
 |agg cs=>exact h
 |_=>simp[aH7]at h
set_option maxHeartbeats 800000 in
theorem bO8(inv:Inv T Φ σ a w G){U lend:Bool}{f:FuncId}{us:List Value}{xs:List V}(a2:us.length=xs.length)(al:∀(i:Nat) v x,us[i]? =some v->xs[i]? =some x->Rv w G v x/\x.ok σ.hasB σ.hasA){ys:List V}{r:V}{X:Value->Array Value->World->Gh->Prop}(ac:iQ T σ.ar ys xs)(R:sO U lend xs ys r=true)
 (z:dY8 T P f ys r X):
 Calls P f us.toArray w λe w1=>∃v B G2,e= .returned v/\(Rr T w1 B v r/\X v us.toArray w1 B)/\Inv T Φ (σ.apps (cond lend [] (aV σ (bK ys xs))++aX σ (bD ys xs))) a w1 G2/\
  (∀j' b,B.O b= .ar j'->G2.O b= .ext/\Φ.mine b/\b<w1.heap.size)/\(lend=false->Keep w1 w1 B G2)/\
  (∀k,(σ.apps (cond lend [] (aV σ (bK ys xs))++aX σ (bD ys xs))).ar k=if k∈bD ys xs then(σ.ar k).map bJ2 else if lend=false/\k∈bK ys xs then(σ.ar k).map frzE else σ.ar k)/\
  (∀k en,σ.ar k=some en->∃en2,(σ.apps (cond lend [] (aV σ (bK ys xs))++aX σ (bD ys xs))).ar k=some en2/\en2.gen=en.gen)/\G2.av=G.av:=by
 obtain⟨a4,z⟩:=z;obtain⟨hlen,hg⟩:=qM ac;simp only[sO,iR,QN]at R;obtain⟨⟨⟨⟨af,ab⟩,as⟩,a0⟩,_⟩:=R;have af:=uU.1 af
 have ab:∀k∈bD ys xs,k∉bK ys xs:=λk hk J=>by
  grind [dY,pM]
 generalize az:bD ys xs=ok at*;generalize ba:bK ys xs=D at*;have a6:ok.length<=1:=by rw[iL]at as;simpa using as
 let aa:Nat->Nat:=λk=> @dite _ (∃j,zW xs ys j k) (Classical.propDecidable _) (λh=>h.choose) (λ_=>0)
 have ao:∀ {j k},zW xs ys j k->aa k=j:=by
  intro j k hp;have bb:∃j,zW xs ys j k:=⟨j,hp⟩;grind [aK3]
 let Gc:Gh:={G with O:=λb=>match G.O b with| .fz=> .fz| .ar k=>if k∈D then .fz else if k∈ok then .ar (aa k)else .ext|_=> .ext}
 have F:∀b,G.O b= .fz->Gc.O b= .fz:=λb hb=>BU;have a9:∀b i,G.O b= .bx i->Gc.O b= .ext:=λb i hb=>BU
 have ae:∀b,G.O b= .ext->Gc.O b= .ext:=λb hb=>BU;have au:∀b k,G.O b= .ar k->k∈D->Gc.O b= .fz:=λb k hb hk=>DT
 have ak:∀b k,G.O b= .ar k->k∈ok->Gc.O b= .ar (aa k):=λb k hb hk=>by
  grind
 have a8:∀b k,G.O b= .ar k->k∉D->k∉ok->Gc.O b= .ext:=λb k hb h1 n=>by simp only[Gc];rw[hb];simp[h1,n]
 have S:∀b,Gc.O b= .fz->G.O b= .fz\/∃k∈D,G.O b= .ar k:=by
  grind
 have H:∀b j,Gc.O b= .ar j->∃k∈ok,G.O b= .ar k:=by
  grind
 have a5:Keep w w G Gc:=⟨F,λ_ _=>rfl⟩;have Z:∀b,Gc.O b≠ .ext->b<w.heap.size:=λb hb=>inv.tag b (λhO=>hb (ae b hO))
 have am:∀b i,Gc.O b≠ .bx i:=λb i hb=>by
  grind
 have ad:∀(j:Nat) v y,us.toArray[j]? =some v->ys[j]? =some y->Rb T w Gc j v y:=by
  intro j v y hv hy;have hj:j<xs.length:=EO;have hx:xs[j]? =some xs[j] :=QE hj
  obtain⟨e1,e2⟩:=al j v _ Bl hx;refine aJ2 inv a5 (hg j _ y hx hy) e1 e2 (λI k hk b hb=>?_) (λI k hk b hb=>?_)
  ·grind [nP]
  ·have ax:k∈ok:=by rw[<-az];exact oZ.2 ⟨j,_,y,hx,hy,I,hk⟩
   rw[ak b k hb ax];rw[ao ⟨_,y,hx,hy,I,hk⟩]
 have aq:T.lay w (λb=>Gc.O b= .fz):=T.lay_mono (λb hb=>⟨F b (inv.F0 b hb),inv.frame b (inv.lay.2 b hb).1 (inv.lay.2 b hb).2⟩) inv.lay.1;refine(z w Gc us.toArray (by rw[<-hlen,<-a2];simp) Z am ad aq).mono ?_
 rintro e w1 ⟨v,B,rfl,an,r1,r2,r3,r4,r5,r6,r7,r8,r9⟩;have L:∀b,G.O b≠ .ext->b<w.heap.size:=inv.tag
 have s:∀b,b<w.heap.size->(∀k,G.O b= .ar k->k∉ok)->w1.heap[b]? =w.heap[b]? :=λb hb hh=>r5 b hb (λj hj=>by
  obtain⟨k,h1,n⟩:=H b j hj;exact hh k n h1)
 have ay:∀b,b<w.heap.size->Gc.O b= .ext->B.O b= .ext:=by
  grind
 let u:Nat->Prop:=λb=>lend=true/\∃k∈D,G.O b= .ar k
 let G2:Gh:={G with O:=λb=> @ite _ (B.O b= .fz/\¬u b) (Classical.propDecidable _) .fz (match G.O b with| .bx i=> .bx i| .ar k=>if k∈ok then .ext else .ar k|_=> .ext)}
 have A:∀b,B.O b= .fz->¬u b->G2.O b= .fz:=λb h1 n=>by simp only[G2];rw[Q9 ⟨h1,n⟩]
 have d_else:∀b,¬(B.O b= .fz/\¬u b)->G2.O b=(match G.O b with| .bx i=> .bx i| .ar k=>if k∈ok then .ext else .ar k|_=> .ext):=λb h=>by simp only[G2];rw[Q5 h]
 have Y:∀b,G.O b= .fz->G2.O b= .fz:=λb hb=>A b (r1 b (F b hb)) (by rintro⟨_,k,_,n⟩;rw[hb]at n;cases n)
 have aw:∀b i,G.O b= .bx i->G2.O b= .bx i:=λb i hb=>by
  grind
 have aj:∀b k,G.O b= .ar k->k∉ok->(lend=true\/k∉D)->G2.O b= .ar k:=λb k hb h1 n=>by
  grind
 have hkeep:Keep w w1 G G2:=⟨Y,λb hb=>s b (L b AP) (λk hk=>by rw[hb]at hk;cases hk)⟩
 let E:List Mod:=cond lend [] (aV σ D)
 let dm:List Mod:=aX σ ok
 have a7:∀m∈E++dm,∃k en,m= .a k en:=by
  intro m J;rcases QJ.1 J with J|J
  ·cases I:lend with
   |true=>simp only[E,I,SG]at J;cases J
   |false=>simp only[E,I,SA]at J;exact bF7 σ D m J
  ·exact aS3 σ ok m J
 have Q:(σ.apps (E++dm)).bx=σ.bx:=aR5 σ _ a7
 have N:∀k,(σ.apps E).ar k=if lend=false/\k∈D then(σ.ar k).map frzE else σ.ar k:=by
  intro k
  cases I:lend with
  |true=>simp only[E,I,SG];simp[St.apps]
  |false=>
   simp only[E,I,SA];rw[cH2 σ σ D (λ_=> .inl rfl) k];simp
 have har2:∀k,(σ.apps (E++dm)).ar k=if k∈ok then(σ.ar k).map bJ2 else if lend=false/\k∈D then(σ.ar k).map frzE else σ.ar k:=by
  intro k;rw[dO,bP7 σ (σ.apps E) ok (λk' C hn=>by rw[N,hn];simp) k,N]
 have hgen:∀k en,σ.ar k=some en->∃en2,(σ.apps (E++dm)).ar k=some en2/\en2.gen=en.gen:=by
  intro k en hen;exact Qz
 have a3:∀k g,σ.hasA k g->(σ.apps (E++dm)).hasA k g:=λk g ⟨en,h1,n⟩=>by
  exact Qp
 have ah:Inv T Φ (σ.apps (E++dm)) a w1 G2:=by
  refine inv.change (vM σ _) hkeep (λ_ _=>rfl) (λ_ _ _=>rfl) (λi hi=>by obtain⟨x,hx⟩:=hi;exact⟨x,by rw[Q];exact hx⟩) a3 ?_ ?_ ?_ ?_ ?_ r6 r7 r8 r9
  ·intro i cs hi
   rw[Q]at hi;obtain⟨c,t,q1,q2,q3⟩:=inv.box i cs hi;exact .inl ⟨hi,aw _ i q3,s _ (L _ Hl) (λk hk=>by rw[q3]at hk;cases hk)⟩
  ·intro k en hen
   rw[har2]at hen;by_cases hk1:k∈ok
   ·exact JS
   ·rw[Q5 hk1]at hen
    by_cases M:lend=false/\k∈D
    ·rw[Q9 M]at hen
     cases hs:σ.ar k with
     |none=>rw[hs]at hen;cases hen
     |some en0=>
      rw[hs]at hen;simp at hen;have hp:=inv.wfA k en0 hs;have hokk:=inv.arr k en0 hs
      have ag:∀b,G.O b= .ar k->G2.O b= .fz:=λb hb=>A b (r1 b (au b k hb M.2)) (by rintro⟨h1,_⟩;rw[M.1]at h1;cases h1)
      have own:∀ {ty},gJ T w G k (G.av k en0.gen) ty en0.l->Rv w1 G2 (G.av k en0.gen) (.sl en0.l):=by
       intro ty ai;rcases ai with⟨e1,e2⟩|⟨b,cap,cur,e1,e2,e3,e4,e5,e6,e7,e8⟩
       ·rw[e2];exact bA2 e1
       ·obtain⟨cc,q1,q2⟩:=(e8.here e3).out
        rw[e1];refine .slS _ cap en0.l _ cc e4 e5 (λ_=>ag b e2) e7 (λj y hy=>?_) (λj y hy=>(q2 j y hy).aW hkeep (dF hp hy));refine⟨?_,(q1 j y hy).2⟩;rw[<-(q1 j y hy).1];exact Uj (by rw[add_block];exact s b (L b (by rw[e2];simp)) (λk' C=>by rw[e2]at C;cases C;exact hk1))
      exact NP
    ·rw[Q5 M]at hen
     refine .inl ⟨hen,λb hb=>⟨aj b k hb hk1 ?_,s b (L b AP) (λk' C=>by rw[hb]at C;cases C;exact hk1)⟩⟩
     grind
  ·grind
  ·intro b
   by_cases hc:B.O b= .fz/\¬u b
   ·rcases r4 b (by rw[hc.1];simp)with⟨h1,_⟩|h1|⟨j,h1⟩
    ·rcases S b h1 with n|⟨k,n,h3⟩
     ·exact .inl (by rw[A b hc.1 hc.2,n])
     ·exact .inr (.inr (inv.mineA b k h3))
    ·exact .inr (.inr (.inl (QV inv.size h1)))
    ·obtain⟨k,_,h3⟩:=H b j h1
     exact .inr (.inr (inv.mineA b k h3))
   ·exact JR
  ·intro b
   rcases Ry b w.heap.size with hb|hb
   ·by_cases hh:∃k∈ok,G.O b= .ar k
    ·obtain⟨k,_,n⟩:=hh
     exact .inr (inv.mineA b k n)
    ·exact .inl (s b hb (λk hk J=>hh ⟨k,J,hk⟩))
   ·exact .inr (.inl (QV inv.size hb))
 have W:∀j' b,B.O b= .ar j'->G2.O b= .ext/\Φ.mine b/\b<w1.heap.size:=by
  intro j' b hb;have hne:¬(B.O b= .fz/\¬u b):=by rintro⟨h1,_⟩;rw[hb]at h1;cases h1
  have hsz:=r2 b AP;rcases r4 b AP with⟨_,h1⟩|h1|⟨j,h1⟩
  ·rw[hb]at h1;cases h1
  ·exact Lh
  ·obtain⟨k,n,h3⟩:=H b j h1
   exact⟨by rw[d_else b hne,h3];simp[n],inv.mineA b k h3,hsz⟩
 have a1:lend=false->Keep w1 w1 B G2:=λI=>⟨λb hb=>A b hb (by rintro⟨h1,_⟩;rw[I]at h1;cases h1),λ_ _=>rfl⟩
 exact⟨v,B,G2,rfl,an,ah,W,a1,har2,hgen,rfl⟩
set_option maxHeartbeats 800000 in
theorem eJ8(inv:Inv T Φ σ a w G){H lend:Bool}{f:FuncId}{C:List Value}{xs:List V}(J:C.length=xs.length)(aa:∀(i:Nat) v x,C[i]? =some v->xs[i]? =some x->Rv w G v x/\x.ok σ.hasB σ.hasA){ys:List V}{r:V}(M:iQ T σ.ar ys xs)(t:sO H lend xs ys r=true)(O:Spec T P f ys r)
 (m:zZ σ d (reuse σ (bD ys xs)) r λv n=>K v (appR (cond lend [] (aV σ (bK ys xs))) (appR (aX σ (bD ys xs)) n))):
 Calls P f C.toArray w λe w'=>∃v',e= .returned v'/\∃v n G',K v n/\Inv T Φ (σ.apps n) a w' G'/\Rv w' G' v' v/\v.ok (σ.apps n).hasB (σ.apps n).hasA:=by
 refine(bO8 inv J aa M t O.x).mono ?_;rintro e L ⟨v,S,G2,rfl,⟨U,_⟩,Z,I,Y,X,ah,an⟩;refine⟨v,rfl,?_⟩;simp only[sO,iR,QN]at t;obtain⟨⟨⟨⟨al,ad⟩,am⟩,l⟩,_⟩:=t;generalize aj:bD ys xs=ok at*;generalize ai:bK ys xs=vk at*
 let Q:List Mod:=cond lend [] (aV σ vk)
 let E:List Mod:=aX σ ok
 have A:∀z,0<=z->σ.ar (d+1000*z)=none->(σ.apps (Q++E)).ar (d+1000*z)=none:=λz _ hn=>by rw[X,hn];simp
 have ae:∀k g,reuse σ ok=some (k,g)->(∀g',(σ.apps (Q++E)).hasA k g'->g'<g)/\∀z,σ.ar (d+1000*z)=none->k≠d+1000*z:=by
  intro k g af;obtain⟨en,hen,rfl⟩:=cZ3 af;refine⟨λg' ⟨ak,q1,q2⟩=>?_,λz hn e=>ED⟩;grind
 have hms:∀n,σ.apps (appR (cond lend [] (aV σ vk)) (appR (aX σ ok) n))=(σ.apps (Q++E)).apps n:=λn=>by
  rw[bT,bT,<-Si,dO]
 have q:∀(rs:List V) (C:List Value),C.length=rs.length->(∀(i:Nat) u y,C[i]? =some u->rs[i]? =some y->Rb T L S i u y)->(lend=true->∀y∈rs,sS y=true)->∀(K':List V->List Mod->Prop),uF σ d rs 0 (reuse σ ok) K'->
  ∃vs n G',K' vs n/\Inv T Φ ((σ.apps (Q++E)).apps n) a L G'/\vs.length=rs.length/\(∀(i:Nat) u v,C[i]? =some u->vs[i]? =some v->Rv L G' u v/\v.ok ((σ.apps (Q++E)).apps n).hasB ((σ.apps (Q++E)).apps n).hasA):=by
  intro rs C J hrb W K' ab
  obtain⟨vs,n,G',F,R,b3,b4,_⟩:=cO6 (Gx:=S) (σ0:=σ) rs 0 (reuse σ ok) (σ.apps (Q++E)) G2 C K' Z A ae J
   (λi u y hu hy _=>Gt)
   (λi u y hu hy B=>by
    have hb:=hrb i u y hu hy
    have D:y.pure/\Rv L S u y:=by
     unfold Rb at hb;grind [Rb,linear]
    refine⟨?_,D.1⟩
    cases s:lend with
    |true=>exact bG6 (W s y (QF hy)) D.2
    |false=>exact D.2.aW (Y s) D.1)
   (λ⟨y,hy,B⟩=>by
    cases s:lend with
    |true=>rw[cA5 (W s y hy)]at B;cases B
    |false=>exact Y s)
   (λz b _ hb=>I z b hb) ab
  exact⟨vs,n,G',F,R,b3,b4⟩
 unfold zZ at m;split at m
 ·rename_i rs
  obtain⟨vs',e1,e2,eo,e3⟩:∃vs:Array Value,v= .agg vs/\vs.size=rs.length/\(∀c∈vs,c.oneCell'=true)/\∀(j:Nat) u y,vs[j]? =some u->rs[j]? =some y->Rb T L S j u y:=U
  obtain⟨vs,n,G',F,R,b3,b4⟩:=q rs vs'.toList GL (λi u y hu hy=>e3 i u y Bj hy)
   (λB y hy=>by rw[B]at l;exact Bool.noConfusion (show false=true from l)) _ m
  refine⟨.agg vs,_,G',F,by rw[hms];exact R,?_,?_⟩
  ·rw[e1]
   refine .agg vs' vs (by rw[e2,b3]) eo λi c x hc hx=>(b4 i c x D9 hx).1
  ·exact JQ
 ·rename_i rs ac
  obtain⟨vs',e1,e2,e3⟩:∃vs:Array Value,v= .tuple vs/\vs.size=rs.length/\∀(j:Nat) u y,vs[j]? =some u->rs[j]? =some y->Rb T L S j u y:=by
   grind [Rr]
  obtain⟨vs,n,G',F,R,b3,b4⟩:=q rs vs'.toList GL (λi u y hu hy=>e3 i u y Bj hy)
   (λB y hy=>by rw[B]at l;exact dY.1 (l:allR sS rs=true) y hy) _ m
  refine⟨.tup vs,_,G',F,by rw[hms];exact R,?_,?_⟩
  ·exact LY
  ·exact JQ
 ·rename_i ac ag
  have N:Rb T L S 0 v r:=by
   grind [Rr]
  obtain⟨vs,n,G',F,R,b3,b4⟩:=q [r] [v] rfl (λi u y hu hy=>by
   cases i with
   |zero=>simp at hu hy;subst hu;subst hy;exact N
   |succ i=>simp at hu)
   (λB y hy=>by
    simp at hy;subst hy;rw[B]at l;have hf:aH7 y=true:=l;exact aW9 hf ag) _ m
  match vs,b3 with
  | [x],_=>
    obtain⟨q1,q2⟩:=b4 0 v x rfl rfl;exact⟨x,_,G',F,by rw[hms];exact R,q1,by rw[hms];exact q2⟩
set_option maxHeartbeats 800000 in
theorem eO2(inv:Inv T Φ σ a w G){f:FuncId}{F:List Value}{xs:List V}(Z:F.length=xs.length)(E:∀(i:Nat) v x,F[i]? =some v->xs[i]? =some x->Rv w G v x/\x.ok σ.hasB σ.hasA){ys:List V}{r:V}{j k g:Nat}{e:TypeId}{l I:List V}(B:iQ T σ.ar ys xs)(ae:sO false false xs ys r=true)(M:bE5 T P f ys r j e I)
 (Q:ys[j]? =some (.own e l))(z:xs[j]? =some (.arr k g))(t:aH7 r=true)
 (hk:K r (appR (aV σ (bK ys xs)) (appR (aX σ (bD ys xs)) [.a k ⟨g, .own,e,I⟩]))):
 Calls P f F.toArray w λe w'=>∃v',e= .returned v'/\∃v ms G',K v ms/\Inv T Φ (σ.apps ms) a w' G'/\Rv w' G' v' v/\v.ok (σ.apps ms).hasB (σ.apps ms).hasA:=by
 refine(bO8 (lend:=false) inv Z E B ae M).mono ?_;obtain⟨au,hg⟩:=qM B;have aj:=hg j _ _ z Q;have hj:j<F.length:=by rw[Z];exact(QD.1 z).1
 have ac:∃en,σ.ar k=some en/\en.gen=g/\en.kind= .own/\en.ty=e/\en.l=l:=by
  have h':(match σ.ar k with
   |some en=>en.gen=g/\en.kind= .own/\en.ty=e/\en.l=l
   |none=>False):=aj
  grind
 obtain⟨en,W,aq,al,ay,a0⟩:=ac
 have S:F.toArray.getD j undef=G.av k g:=by
  have h1:=(E j F[j] _ (QE hj) z).1;have h3:F.toArray.getD j undef=F[j] :=by simp[hj]
  rw[h3,h1.oQ]
 have he:e<T.n e:=by
  have h1:=inv.arr k en W;grind [gW]
 have a1:k∈bD ys xs:=oZ.2 ⟨j,_,_,z,Q,rfl,by simp[jQ]⟩
 rintro ex L ⟨v,R,A,rfl,⟨s,aa,tg,U⟩,D,ai,ah,Y,C,an⟩;have ak:=ah rfl;rw[S]at U;simp only[SA]at D Y C;generalize aw:σ.apps (aV σ (bK ys xs)++aX σ (bD ys xs))=ad at*
 have H:σ.apps (appR (aV σ (bK ys xs)) (appR (aX σ (bD ys xs)) [.a k ⟨g, .own,e,I⟩]))=ad.apps [.a k ⟨g, .own,e,I⟩] :=by
  grind [bT,Si,dO]
 let O':Nat->Tag:=λb=>match R.O b with| .ar i=>if i=tg then .ar k else A.O b|_=>A.O b
 have am:∀b,R.O b≠ .ar tg->O' b=A.O b:=by
  grind
 have ag:∀b,R.O b= .ar tg->O' b= .ar k:=by
  grind
 have ao:Keep L L R {A with O:=O'}:=⟨λb hb=>(am b AP).trans (ak.fz b hb),λ_ _=>rfl⟩
 have X:Inv T Φ (ad.apps [.a k ⟨g, .own,e,I⟩]) a L {A with av:=A.av,O:=O'}:=by
  refine D.zU (w':=L) (k:=k) (en:=⟨g, .own,e,I⟩) (av':=A.av) (O':=O') ?_ (λ_ _ _=>rfl) aa ?_ ?_ ?_ (λ_ _ _=>rfl) (QH _) rfl rfl rfl
  ·rintro g' ⟨ax,q1,q2⟩
   obtain⟨az,q3,q4⟩:=C k en W;rw[q3]at q1;cases q1;show g'<=g;omega
  ·unfold gW
   refine⟨he,?_⟩;show gJ T L {A with av:=A.av,O:=O'} k (A.av k g) e I;have ab:A.av k g=G.av k g:=by rw[an]
   rw[ab];rcases U with h|⟨b,cap,cur,h1,h2,h3,h4,h5,h6,h7,h8⟩
   ·exact .inl h
   ·refine .inr ⟨b,cap,cur,h1,ag b h2,h3,h4,h5,h6,h7,h8.keep ao (p:=λ_=>False) (q:=λ_ _=>False) ?_ (λ_ h=>h.elim) (λ_ _ h=>h.elim)⟩
    refine aH.2 λy Q=>?_;obtain⟨i,hi⟩:=QY Q;exact dF aa hi
  ·grind
  ·grind
 refine⟨v,rfl,r,_,_,hk,by rw[H];exact X,?_,?_⟩
 ·unfold Rr at s
  split at s
  ·exact Bool.noConfusion (show false=true from t)
  ·rename_i rs _
   obtain⟨vs,e1,e2,e3⟩:=s;rw[e1];have af:allR sS rs=true:=t;refine .tup vs rs e2 λi c x hc z=>?_;have J:=dY.1 af x (QF z)
   have hb:=e3 i c x hc z
   have N:x.pure/\Rv L R c x:=by
    unfold Rb at hb;grind [sS]
   exact bG6 J N.2
  ·rename_i as
   have J:=aW9 t as
   have N:r.pure/\Rv L R v r:=by
    unfold Rb at s;grind [sS]
   exact bG6 J N.2
 ·have m:∀ {x:V},sS x=true->∀p q,x.ok p q:=by
   intro x z p q
   cases x with
   |lit u=>simp only[V.ok]
   |agg cs=>
    simp only[V.ok];refine aH.2 λy Q=>?_;have:=dY.1 (z:allR bR6 cs=true) y Q
    cases y with
    |lit u=>simp only[V.ok]
    |_=>simp[bR6]at this
   |_=>simp[sS]at z
  cases r with
  |tup rs=>
   simp only[V.ok];refine aH.2 λx z=>m (dY.1 (t:allR sS rs=true) x z) _ _
  |lit u=>simp only[V.ok]
  |agg cs=>exact m (x:= .agg cs) t _ _
  |_=>simp[aH7]at t
set_option maxHeartbeats 800000 in
theorem call_new(inv:Inv T Φ σ a w G){f:FuncId}{M:List Value}{xs:List V}(L:M.length=xs.length)(B:∀(i:Nat) v x,M[i]? =some v->xs[i]? =some x->Rv w G v x/\x.ok σ.hasB σ.hasA){ys:List V}{g:List V}(r:iQ T σ.ar ys xs)(C:sO false false xs ys .bot=true)(s:SpecN T P f ys g)
 (hd:σ.bx d=none)(U:K (.box d 0) (appR (aV σ (bK ys xs)) (appR (aX σ (bD ys xs)) [.b d g]))):
 Calls P f M.toArray w λe w'=>∃v',e= .returned v'/\∃v E G',K v E/\Inv T Φ (σ.apps E) a w' G'/\Rv w' G' v' v/\v.ok (σ.apps E).hasB (σ.apps E).hasA:=by
 refine(bO8 (lend:=false) inv L B r C s).mono ?_;rintro ex S ⟨v,G1,D,rfl,⟨N,A,b,c,t,j,rfl,X,Y,Z⟩,l,m,F,Q,R,W⟩;have J:=F rfl;obtain⟨z,n,I⟩:=m j b X;simp only[SA]at l
 have y:(σ.apps (aV σ (bK ys xs)++aX σ (bD ys xs))).bx d=none:=by
  grind [aR5,bF7,aS3,QJ.1]
 have k:σ.apps (appR (aV σ (bK ys xs)) (appR (aX σ (bD ys xs)) [.b d g]))=(σ.apps (aV σ (bK ys xs)++aX σ (bD ys xs))).apps [.b d g] :=by
  grind [bT,Si,dO]
 have H:RvL S D c.toList g:=Z.keep J (p:=λ_=>False) (q:=λ_ _=>False) A (λ_ h=>h.elim) (λ_ _ h=>h.elim);have u:=l.takeBox y z n I Y H (V.okL.imp (λ_ h=>h.elim) (λ_ _ h=>h.elim) _ A)
 refine⟨_,rfl, .box d 0,_,_,U,by rw[k];exact u,?_,?_⟩
 ·have:=Rv.box (w:=S) (G:={D with β:=upd D.β d b,O:=upd D.O b (.bx d)}) d 0
  simp only[upd_same]at this;exact this
 ·rw[k]
  simp only[V.ok];exact⟨g,upd_same _ _ _⟩
end
theorem dH8(f:Nat->Nat)(xs:List V):(V.agg xs).ren f= .agg (xs.map (V.ren f)):=by
 have h:∀l:List V,(V.agg l).ren f= .agg (l.map (V.ren f)):=by
  intro l
  induction l with
  |nil=>rfl
  |cons x r c=>
   have b:(V.agg (x::r)).ren f=(match(V.agg r).ren f with| .agg l=> .agg (x.ren f::l)|y=>y):=rfl
   rw[b,c];rfl
 exact h xs
theorem dD2(f:Nat->Nat)(xs:List V):(V.tup xs).ren f= .tup (xs.map (V.ren f)):=by
 have h:∀l:List V,(V.tup l).ren f= .tup (l.map (V.ren f)):=by
  intro l
  induction l with
  |nil=>rfl
  |cons x r c=>
   have b:(V.tup (x::r)).ren f=(match(V.tup r).ren f with| .tup l=> .tup (x.ren f::l)|y=>y):=rfl
   rw[b,c];rfl
 exact h xs
theorem eK1(f:Nat->Nat)(g:FuncId)(xs:List V):(V.fn g xs).ren f= .fn g (xs.map (V.ren f)):=by
 have h:∀l:List V,(V.fn g l).ren f= .fn g (l.map (V.ren f)):=by
  intro l
  induction l with
  |nil=>rfl
  |cons x r c=>
   have b:(V.fn g (x::r)).ren f=(match(V.fn g r).ren f with| .fn g l=> .fn g (x.ren f::l)|y=>y):=rfl
   rw[b,c];rfl
 exact h xs
mutual
theorem V.ok.ren{p p':Nat->Prop}{q:Nat->Nat->Prop}{f:Nat->Nat}(b:∀j,p j->p' (f j)):(x:V)->x.ok p q->(x.ren f).ok p' q
 | .bot,_=>He
 | .lit u,_=>Gu
 | .agg l,h=>by
   rw[dH8];simp only[V.ok]at h⊢;exact V.okL.ren b l h
 | .tup l,h=>by
   rw[dD2];simp only[V.ok]at h⊢;exact V.okL.ren b l h
 | .sl l,h=>EG
 | .cap l,h=>E8
 | .own e l,h=>Em
 | .ap e l,h=>Ew
 | .box j off,h=>by
   show V.ok _ _ (.box (f j) off);simp only[V.ok]at h⊢;exact b j h
 | .arr k g,h=>En
 | .fp l,h=>EH
 | .ae k g z i' o,h=>DN
 | .fn g l,h=>by
   rw[eK1];simp only[V.ok]at h⊢;exact V.okL.ren b l h
theorem V.okL.ren{p p':Nat->Prop}{q:Nat->Nat->Prop}{f:Nat->Nat}(b:∀j,p j->p' (f j)):(l:List V)->V.okL p q l->V.okL p' q (l.map (V.ren f))
 | [],_=>by simp only[RY,V.okL]
 |x::r,h=>by
  simp only[QW,V.okL]at h⊢;exact⟨V.ok.ren b x h.1,V.okL.ren b r h.2⟩
end
section
variable{T:Tab}{P:Program}{Φ:Fr}{σ:St}{a:Act}{w w':World}{G G':Gh}{K:VK}{o:Oper}{d:Nat}
theorem Rv.ren{f:Nat->Nat}(C:Keep w w G G'){v:Value}{x:V}(h:Rv w G v x):
 ∀ {p:Nat->Prop},x.ok p (λ_ _=>False)->(∀i,p i->G'.β (f i)=G.β i)->Rv w G' v (x.ren f):=by
 induction h with
 |bot v=>intros;exact .bot v
 |lit u h=>intros;exact .lit u h
 |agg vs xs hl F _ ih=>
  intro p hok hp;simp only[V.ok]at hok;rw[dH8];refine .agg vs _ BD F λj c x hc hx=>?_;exact Pv
 |tup vs xs hl _ ih=>
  intro p hok hp;simp only[V.ok]at hok;rw[dD2];refine .tup vs _ BD λj c x hc hx=>?_;exact Pv
 |slN=>intros;exact .slN
 |slS a c l sz cc B r m z s t _=>
  intro p hok hp;exact(Rv.slS a c l sz cc B r m z s t).aW C Ba
 |capN=>intros;exact .capN
 |capS a l sz cc r m z s t _=>
  intro p hok hp;exact(Rv.capS a l sz cc r m z s t).aW C Ba
 |box j off=>
  intro p hok hp;simp only[V.ok]at hok;rw[<-hp j hok];exact .box (f j) off
 |arr k g h=>
  intro p hok hp;simp only[V.ok]at hok
 |fp a l cc B r m _=>
  intro p hok hp;exact(Rv.fp a l cc B r m).aW C Ba
 |ae k g sz j off a n c h=>
  intro p hok hp;simp only[V.ok]at hok
 |fn g D e hl _ ih=>
  intro p hok hp;simp only[V.ok]at hok;rw[eK1];refine .fn g D _ BD λj c x hc hx=>?_;rw[Rk]at hx
  cases hy:e[j]? with
  |none=>rw[hy]at hx;cases hx
  |some y=>exact Jt
 |fb g E e hl _ ih=>
  intro p hok hp;simp only[V.ok,V.okL]at hok;rw[eK1];refine .fb g E (e.map (V.ren f)) BD λj c x hc hx=>?_;rw[Rk]at hx
  cases hy:e[j]? with
  |none=>rw[hy]at hx;cases hx
  |some y=>
   rw[hy]at hx;simp only[Sr,RS]at hx;subst hx;exact ih j c y hc hy (aH.1 hok.2 y (QF hy)) hp
 |mp b A q g H es val B r m z s t _=>
  intro p hok hp;exact(Rv.mp b A q g H es val B r m z s t).aW C Fh
abbrev Grp:=List (List V×List V)
def PosG(gs:Grp)(γ q k:Nat):Prop:=∃g,gs[γ]? =some g/\zW g.1 g.2 q k
theorem aT8{ys xs:List V}{k:Nat}:k∈bD ys xs↔∃q,zW xs ys q k:=by
 rw[oZ];constructor
 ·rintro⟨i,x,y,h⟩;exact⟨i,x,y,h⟩
 ·rintro⟨i,x,y,h⟩;exact⟨i,x,y,h⟩
theorem bT5(g:List V×List V)(b:Grp):ownG (g::b)=bD g.2 g.1++ownG b:=by
 have:ownG (g::b)=appR (bD g.2 g.1) (ownG b):=rfl;rw[this,bT]
theorem cX2(g:List V×List V)(b:Grp):mF (g::b)=bK g.2 g.1++mF b:=by
 have:mF (g::b)=appR (bK g.2 g.1) (mF b):=rfl;rw[this,bT]
theorem aP0{e:Grp}{k:Nat}:k∈ownG e↔∃b q,PosG e b q k:=by
 induction e with
 |nil=>
  have:ownG [] =[] :=rfl;rw[this];constructor
  ·intro h;cases h
  ·rintro⟨b,q,g,h,_⟩;simp at h
 |cons g e j=>
  rw[bT5,QJ,j,aT8];constructor
  ·rintro(⟨q,h⟩|⟨b,q,h⟩)
   ·exact⟨0,q,g,rfl,h⟩
   ·obtain⟨i,c,f⟩:=h
    exact⟨b+1,q,i,c,f⟩
  ·rintro⟨b,q,i,c,f⟩
   cases b with
   |zero=>simp at c;subst c;exact .inl ⟨q,f⟩
   |succ b=>exact .inr ⟨b,q,i,c,f⟩
theorem aS8{b:Grp}{k:Nat}:k∈mF b↔∃(c:Nat) (g:List V×List V),b[c]? =some g/\k∈bK g.2 g.1:=by
 induction b with
 |nil=>
  have:mF [] =[] :=rfl;simp_all
 |cons g b f=>
  rw[cX2,QJ,f];constructor
  ·rintro(h|⟨c,e,j,i⟩)
   ·exact⟨0,g,rfl,h⟩
   ·exact⟨c+1,e,j,i⟩
  ·grind
theorem aA3{f:Grp}(t:(ownG f).Nodup){c q b i k:Nat}(h:PosG f c q k)(p:PosG f b i k):c=b/\q=i:=by
 induction f generalizing c b with
 |nil=>obtain⟨g,h,_⟩:=h;simp at h
 |cons g f u=>
  rw[bT5,List.nodup_append]at t;obtain⟨y,v,x⟩:=t
  have e:∀ {c q i},PosG (g::f) 0 q k->PosG (g::f) (c+1) i k->False:=by
   rintro c q i ⟨s,j,r⟩ ⟨m,l,n⟩;simp at j;subst j;exact x k (aT8.2 ⟨q,r⟩) k (aP0.2 ⟨c,i,m,by simpa using l,n⟩) rfl
  cases c with
  |zero=>
   cases b with
   |zero=>
    obtain⟨s,j,r⟩:=h;obtain⟨m,l,n⟩:=p;grind [aK3]
   |succ b=>exact(e h p).elim
  |succ c=>
   cases b with
   |zero=>exact(e p h).elim
   |succ b=>
    obtain⟨s,j,r⟩:=h;obtain⟨m,l,n⟩:=p;obtain⟨z,A⟩:=u v ⟨s,by simpa using j,r⟩ ⟨m,by simpa using l,n⟩;simp_all
theorem aB1{ar:Nat->Option AE}{is:List Nat}:∀ {ys xs:List V},bI2 T ar is ys xs->xs.length=ys.length/\∀(i:Nat) x y,xs[i]? =some x->ys[i]? =some y->aP8 T ar is x y:=by
 intro ys
 induction ys with
 |nil=>
  intro xs h;exact Oc
 |cons y r b=>
  intro xs h
  cases xs with
  |nil=>exact(h:False).elim
  |cons x xr=>
   obtain⟨e,c⟩:aP8 T ar is x y/\bI2 T ar is r xr:=h;grind
theorem dO7{is:List Nat}:∀ {ys xs:List V},refL is ys xs->xs.length=ys.length/\∀(i:Nat) x y,xs[i]? =some x->ys[i]? =some y->bU9 is x y:=by
 intro ys
 induction ys with
 |nil=>
  intro xs h;exact Oc
 |cons y r b=>
  intro xs h
  cases xs with
  |nil=>exact(h:False).elim
  |cons x xr=>
   obtain⟨e,c⟩:bU9 is x y/\refL is r xr:=h;grind
theorem aJ8{ar:Nat->Option AE}{is:List Nat}:∀ {b:Grp},xM T ar is b->∀(c:Nat) (g:List V×List V),b[c]? =some g->bI2 T ar is g.2 g.1:=by
 intro b
 induction b with
 |nil=>intro _ c g h;simp at h
 |cons e b i=>
  intro h c g f;obtain⟨k,j⟩:bI2 T ar is e.2 e.1/\xM T ar is b:=h;grind
theorem aR3{bx:Nat->Option (List V)}:∀ {bs:List (List V)} {is:List Nat},is.length=bs.length->∀(j:Nat) (g:List V×List V),(eU bx bs is)[j]? =some g↔∃(i:Nat) (b:List V),is[j]? =some i/\bs[j]? =some b/\g=((bx i).getD [],b):=by
 intro bs
 induction bs with
 |nil=>
  intro is _ j g;have:eU bx [] is=[] :=rfl;rw[this];simp
 |cons b r h=>
  intro is f j g
  cases is with
  |nil=>simp at f
  |cons i c=>
   have e:eU bx (b::r) (i::c)=((bx i).getD [],b)::eU bx r c:=by
    show((match bx i with|some cs=>cs|none=> []),b)::eU bx r c=_
    cases bx i<;>rfl
   grind
theorem dQ1{n j:Nat}{v:Value}{y:V}(h:Rb T w G j v y):RbB T w G n j v y:=by
 unfold Rb at h;unfold RbB;split
 ·exact h
 ·exact h
 ·rename_i c b
  split at h
  ·exact(c _ _ rfl).elim
  ·exact(b _ _ rfl).elim
  ·exact⟨V.pure.ok h.1 _ _,h.2⟩
theorem aW7(inv:Inv T Φ σ a w G)(t:Keep w w G G'){is:List Nat}(L:∀b i,nth is (b-100000)=some i->100000<=b->G'.β b=G.β i){v:Value}{x y:V}{j:Nat}(h:aP8 T σ.ar is x y)(hv:Rv w G v x)(hok:x.ok σ.hasB σ.hasA)
 (r:linear y=false->∀k∈jQ x,∀b,G.O b= .ar k->G'.O b= .fz)(m:linear y=true->∀k∈jQ x,∀b,G.O b= .ar k->G'.O b= .ar j):RbB T w G' is.length j v y:=by
 have u:∀ {v:Value} {x y:V},bU9 is x y->Rv w G v x->x.ok σ.hasB σ.hasA->y.ok (λi=>100000<=i/\i<100000+is.length) (λ_ _=>False)/\Rv w G' v y:=by
  intro v x y h hv hok;unfold bU9 at h;split at h
  ·rename_i b off
   split at h
   ·rename_i i S
    obtain⟨U,Y,rfl⟩:=h;have Z:100000<=b:=TB Y;have s:nth is (b-100000)=some i:=U
    have X:b-100000<is.length:=by rw[uN]at s;exact(QD.1 s).1
    refine⟨by simp only[V.ok];omega,?_⟩
    rw[hv.bI6,<-L b i s Z];exact .box b _
   ·exact h.elim
  ·split at h
   ·subst h
    simp only[V.ok]at hok;exact⟨by simp only[V.ok];exact hok,hv.aW t BL⟩
   ·exact h.elim
  ·split at h
   ·subst h
    exact⟨BK,by rw[hv.bH];exact .lit _ hv.aZ3⟩
   ·exact h.elim
  ·split at h
   ·exact nomatch hv
   ·exact h.elim
  ·exact h.elim
 unfold aP8 at h;split at h
 ·exact⟨BK, .bot v⟩
 ·exact u h hv hok
 ·rename_i g ys
  split at h
  ·rename_i E xs
   cases B:isMapC ys with
   |true=>
    rw[B]at h;obtain⟨rfl,rfl⟩:E=g/\xs=ys:=h;have R:=fn_atom_pure (g:=E) (l:=xs) (by show cond (isMapC xs) true _=true;rw[B];rfl) hok
    exact⟨R.ok _ _,hv.aW t R⟩
   |false=>
   rw[B]at h;obtain⟨rfl,h⟩:E=g/\refL is ys xs:=h;obtain⟨hl,I⟩:=dO7 h
   have N:isFnC xs=true:=by
    cases xs with
    |nil=>rfl
    |cons W xr=>
     cases W with
     |ap e l=>
      cases ys with
      |nil=>simp at hl
      |cons y0 yr=>
       have F:=I 0 (.ap e l) y0 rfl rfl;unfold bU9 at F;split at F<;>exact F.elim
     |_=>rfl
   rcases hv.cU8 N with⟨H,Q,e2,M⟩|⟨J,cs,Q,rfl,e2,M⟩
   rotate_left
   ·obtain⟨C,rfl⟩:∃C,ys= .own 0 [] ::C:=by
     cases ys with
     |nil=>simp at hl
     |cons z C=>
      have F:=I 0 (.own 0 []) z rfl rfl;unfold bU9 at F;grind
    simp only[V.ok,V.okL]at hok
    have f:∀(i:Nat) c y,J[i]? =some c->C[i]? =some y->y.ok (λi=>100000<=i/\i<100000+is.length) (λ_ _=>False)/\Rv w G' c y:=by
     intro i c y q hy;have hi:i<cs.length:=by simp only[QM]at hl;have:=(QD.1 hy).1;omega
     have A:=QE hi;exact u (I (i+1) _ y A hy) (M i c _ q A) (aH.1 hok.2 _ (QF A))
    have D:cs.length=C.length:=by simp only[QM]at hl;omega
    refine⟨?_,?_⟩
    ·simp only[V.ok,V.okL]
     refine⟨trivial,aH.2 λy hy=>?_⟩;obtain⟨i,hi⟩:=QY hy;have n:i<J.size:=by rw[e2,D];exact(QD.1 hi).1
     exact(f i J[i] y (by simp[n]) hi).1
    ·rw[Q]
     exact .fb E J C (by rw[e2,D]) λi c y q hy=>(f i c y q hy).2
   simp only[V.ok]at hok
   have f:∀(i:Nat) c y,H[i]? =some c->ys[i]? =some y->y.ok (λi=>100000<=i/\i<100000+is.length) (λ_ _=>False)/\Rv w G' c y:=by
    intro i c y q hy;have hi:i<xs.length:=EZ;have A:=QE hi
    exact u (I i _ y A hy) (M i c _ q A) (aH.1 hok _ (QF A))
   refine⟨?_,?_⟩
   ·simp only[V.ok]
    refine aH.2 λy hy=>?_;obtain⟨i,hi⟩:=QY hy;have n:i<H.size:=EK
    exact(f i H[i] y (by simp[n]) hi).1
   ·rw[Q]
    exact .fn E H ys (by rw[e2,hl]) λi c y q hy=>(f i c y q hy).2
  ·exact h.elim
 ·exact dQ1 (aJ2 inv t h hv hok r m)
def oM(bx:Nat->Option (List V))(is:List Nat):List Mod:=is.map λi=> .b i (((bx i).getD []).map λ_=>V.bot)
theorem bX5(bx:Nat->Option (List V)):∀(is:List Nat) (τ:St) (i:Nat),(τ.apps (oM bx is)).bx i=if i∈is then some (((bx i).getD []).map λ_=>V.bot)else τ.bx i:=by
 intro is
 induction is with
 |nil=>intro τ i;simp[oM,St.apps]
 |cons j r g=>
  intro τ i;have e:τ.apps (oM bx (j::r))=((Mod.b j (((bx j).getD []).map λ_=>V.bot)).app τ).apps (oM bx r):=rfl;rw[e,g];by_cases f:i∈r
  ·simp[f]
  ·by_cases c:i=j
   ·subst c
    simp only[f,Ue,QO,true_or,TQ];exact upd_same _ _ _
   ·simp only[f,c,Ue,QO,or_self]
    exact upd_ne _ _ c
theorem dI5(bx:Nat->Option (List V)):∀(is:List Nat) (τ:St),(τ.apps (oM bx is)).ar=τ.ar:=by
 intro is
 induction is with
 |nil=>intro τ;rfl
 |cons j r c=>
  intro τ;have e:τ.apps (oM bx (j::r))=((Mod.b j (((bx j).getD []).map λ_=>V.bot)).app τ).apps (oM bx r):=rfl;rw[e,c];rfl
theorem aL0{bx:Nat->Option (List V)}{c:Grp}{is:List Nat}{bs:List (List V)}{r:V}(h:zA bx c is bs r=true):
 (ownG c).Nodup/\(∀k∈ownG c,k∉mF c)/\is.Nodup/\is.length=bs.length/\(∀i∈is,∃cs,bx i=some cs)/\(∀b∈bs,b.length<1000)/\is.length<=8/\∀rs,r= .tup rs->rs.length<1000:=by
 unfold zA at h;simp only[QN]at h;obtain⟨⟨⟨⟨⟨⟨⟨j,t⟩,g⟩,n⟩,f⟩,m⟩,e⟩,s⟩:=h;refine⟨uU.1 j,λk q l=>?_,uU.1 g,?_,λi hi=>?_,λb p=>?_,?_,?_⟩
 ·grind [dY,pM]
 ·grind [Sj,iL]
 ·have:=dY.1 f i hi
  unfold isS at this;grind
 ·simp_all [dY,iL]
 ·rw[iL]at e
  exact TB e
 ·rintro rs rfl;simp_all [iL]
set_option maxHeartbeats 1600000 in
theorem cS4(inv:Inv T Φ σ a w G){f:FuncId}{us:List Value}{xs:List V}(bm:us.length=xs.length)(a5:∀(i:Nat) v x,us[i]? =some v->xs[i]? =some x->Rv w G v x/\x.ok σ.hasB σ.hasA){ys:List V}{is:List Nat}{bs:List (List V)}{r:V}{z:List (List V)}
 {gs:Grp}(a8:gs=(xs,ys)::eU σ.bx bs is)(aw:xM T σ.ar is gs)(be:zA σ.bx gs is bs r=true)(H:aU2 T P f ys bs r z):
 Calls P f us.toArray w λe w1=>∃v A G2,e= .returned v/\RrB T w1 A bs.length v r/\BxOk T w1 A z/\Inv T Φ (σ.apps (aV σ (mF gs)++aX σ (ownG gs)++oM σ.bx is)) a w1 G2/\
  (∀t b,A.O b= .ar t->G2.O b= .ext/\Φ.mine b/\b<w1.heap.size)/\Keep w1 w1 A G2/\(∀(j:Nat) i,is[j]? =some i->G2.β i=A.β (100000+j))/\
  (∀k,(σ.apps (aV σ (mF gs)++aX σ (ownG gs)++oM σ.bx is)).ar k=if k∈ownG gs then(σ.ar k).map bJ2 else if k∈mF gs then(σ.ar k).map frzE else σ.ar k)/\G2.av=G.av:=by
 obtain⟨bq,hlens,H⟩:=H;obtain⟨bv,bk,bi,hil,bf,bo,bw,_⟩:=aL0 be;have hbl:z.length=bs.length:=DV;have g0:gs[0]? =some (xs,ys):=by rw[a8];rfl
 have gj:∀(j:Nat) (i:Nat) b,is[j]? =some i->bs[j]? =some b->gs[j+1]? =some ((σ.bx i).getD [],b):=by
  intro j i b h1 s;rw[a8,RG];exact(aR3 hil j _).2 ⟨i,b,h1,s,rfl⟩
 have S:∀(γ:Nat) (g:List V×List V),gs[γ]? =some g->g.1.length=g.2.length/\∀(q:Nat) x y,g.1[q]? =some x->g.2[q]? =some y->aP8 T σ.ar is x y:=λγ g hg=>aB1 (aJ8 aw γ g hg);generalize hok:ownG gs=ok at*;generalize bh:mF gs=R at*
 let aa:Nat->Nat:=λk=> @dite _ (∃t,∃γ q,t=100000*γ+q/\PosG gs γ q k) (Classical.propDecidable _) (λh=>h.choose) (λ_=>0)
 have hpos:∀ {γ q k},PosG gs γ q k->aa k=100000*γ+q:=by
  intro γ q k hp;exact P7
 let N:Nat->Nat:=λi=> @dite _ (∃j,is[j]? =some i) (Classical.propDecidable _) (λh=>h.choose) (λ_=>0)
 have bl:∀ {j i:Nat},is[j]? =some i->N i=j:=by
  intro j i hj;have hex:∃j,is[j]? =some i:=⟨j,hj⟩;have W:N i=hex.choose:=by simp only[N];rw[dif_pos hex]
  rw[W];have s:=hex.choose_spec;have F:=(QD.1 hj).1
  exact(List.getElem?_inj (QD.1 s).1 bi).1 (s.trans hj.symm)
 let Gc:Gh:={β:=λb=>if 100000<=b then G.β (nthD is (b-100000))else G.β b,av:=G.av,O:=λb=>match G.O b with| .fz=> .fz| .ar k=>if k∈R then .fz else if k∈ok then .ar (aa k)else .ext| .bx i=>if i∈is/\b=G.β i then .bx (100000+N i)else .ext| .ext=> .ext}
 have I:∀b,G.O b= .fz->Gc.O b= .fz:=λb hb=>BU;have ak:∀b i,G.O b= .bx i->¬(i∈is/\b=G.β i)->Gc.O b= .ext:=λb i hb hi=>by simp only[Gc];rw[hb];simp only;rw[Q5 hi]
 have ae:∀b (j:Nat) i,G.O b= .bx i->is[j]? =some i->b=G.β i->Gc.O b= .bx (100000+j):=λb j i hb hj he=>by
  grind
 have Y:∀b,G.O b= .ext->Gc.O b= .ext:=λb hb=>BU;have ah:∀b k,G.O b= .ar k->k∈R->Gc.O b= .fz:=λb k hb hk=>DT
 have c_ok:∀b k,G.O b= .ar k->k∈ok->Gc.O b= .ar (aa k):=λb k hb hk=>by
  grind
 have a3:∀b k,G.O b= .ar k->k∉R->k∉ok->Gc.O b= .ext:=λb k hb h1 s=>by simp only[Gc];rw[hb];simp[h1,s]
 have aj:∀b i,nth is (b-100000)=some i->100000<=b->Gc.β b=G.β i:=by
  intro b i h1 s;simp only[Gc];rw[Q9 s];unfold nthD;rw[h1]
 have E:∀(j:Nat) i,is[j]? =some i->Gc.β (100000+j)=G.β i:=by
  intro j i hj;refine aj _ i ?_ Aa;grind [uN]
 have n:∀b,(Gc.O b= .fz/\(G.O b= .fz\/∃k∈R,G.O b= .ar k))\/(∃k∈ok,G.O b= .ar k/\Gc.O b= .ar (aa k))\/(∃(j:Nat) (i:Nat),is[j]? =some i/\(G.O b= .bx i/\b=G.β i)/\Gc.O b= .bx (100000+j))\/Gc.O b= .ext:=by
  intro b
  cases hO:G.O b with
  |ext=>exact .inr (.inr (.inr (Y b hO)))
  |fz=>exact .inl ⟨I b hO, .inl rfl⟩
  |bx i=>
   by_cases hi:i∈is/\b=G.β i
   ·obtain⟨j,hj⟩:=QY hi.1
    exact .inr (.inr (.inl ⟨j,i,hj,⟨rfl,hi.2⟩,ae b j i hO hj hi.2⟩))
   ·exact .inr (.inr (.inr (ak b i hO hi)))
  |ar k=>
   grind
 have br:Keep w w G Gc:=⟨I,λ_ _=>rfl⟩;have aq:∀b,Gc.O b≠ .ext->b<w.heap.size:=λb hb=>inv.tag b (λhO=>hb (Y b hO))
 have L:∀(j:Nat) i,is[j]? =some i->∃cs c t,σ.bx i=some cs/\w.heap[G.β i]? =some (.cells c t (0,0))/\RvL w G c.toList cs/\G.O (G.β i)= .bx i:=by
  intro j i hj;obtain⟨cs,bd⟩:=bf i (QF hj);obtain⟨c,t,q1,q2,q3⟩:=inv.box i cs bd;exact⟨cs,c,t,bd,q1,q2,q3⟩
 have a7:∀b i,Gc.O b= .bx i->100000<=i/\i<100000+bs.length/\b=Gc.β i:=by
  intro b i' hb;rcases n b with⟨h,_⟩|⟨k,_,_,h⟩|⟨j,i,h1,s,Z⟩|h
  ·rw[h]at hb;cases hb
  ·rw[h]at hb;cases hb
  ·rw[Z]at hb
   cases hb;grind
  ·rw[h]at hb;cases hb
 have al:∀(γ q:Nat) (g:List V×List V) (v:Value) (x y:V),gs[γ]? =some g->g.1[q]? =some x->g.2[q]? =some y->Rv w G v x->x.ok σ.hasB σ.hasA->RbB T w Gc is.length (100000*γ+q) v y:=by
  intro γ q g v x y hg hx hy hv bg;refine aW7 inv br aj ((S γ g hg).2 q x y hx hy) hv bg (λhl k hk b hb=>?_) (λhl k hk b hb=>?_)
  ·exact ah b k hb (by rw[<-bh];exact aS8.2 ⟨γ,g,hg,nP.2 ⟨q,x,y,hx,hy,hl,hk⟩⟩)
  ·exact LV
 have ax:∀(j:Nat) v y,us.toArray[j]? =some v->ys[j]? =some y->RbB T w Gc bs.length j v y:=by
  intro j v y hv hy;have hj:j<xs.length:=by rw[(S 0 _ g0).1];exact(QD.1 hy).1
  have hx:xs[j]? =some xs[j] :=QE hj;obtain⟨W,e2⟩:=a5 j v _ Bl hx;have:=al 0 j (xs,ys) v _ y g0 hx hy W e2
  rwa [Nat.mul_zero,SL,hil]at this
 have ao:BxOk T w Gc bs:=by
  intro j b hb;have hj:j<is.length:=by rw[hil];exact(QD.1 hb).1
  have hi:is[j]? =some is[j] :=QE hj;obtain⟨cs,c,t,q1,q2,q3,q4⟩:=L j _ hi;have hg:=gj j _ b hi hb
  have ad:=(S _ _ hg).1;rw[q1]at hg ad;simp only[TY]at hg ad;refine⟨?_,c,t,?_,?_,?_⟩
  ·rw[E j _ hi];exact ae _ j _ q4 hi rfl
  ·rw[E j _ hi];exact q2
  ·rw[<-ad,<-q3.len];simp
  ·intro q v y hv hy
   have hq:q<cs.length:=by rw[ad];exact(QD.1 hy).1
   have hx:cs[q]? =some cs[q] :=QE hq;have bc:c.toList[q]? =some v:=Bl
   refine⟨q3.one v (QF bc),?_⟩;rw[<-hil];exact al (j+1) q _ v _ y hg hx hy (q3.rel q v _ bc hx) (aH.1 (inv.wfB _ cs q1) _ (QF hx))
 have ba:T.lay w (λb=>Gc.O b= .fz):=T.lay_mono (λb hb=>⟨I b (inv.F0 b hb),inv.frame b (inv.lay.2 b hb).1 (inv.lay.2 b hb).2⟩) inv.lay.1
 have bn:us.toArray.size=ys.length:=by
  have:=(S 0 _ g0).1;simp only[SH];exact bm.trans this
 refine(H w Gc us.toArray bn aq a7 ao ax ba).mono ?_;rintro e w1 ⟨v,A,rfl,a9,U,X,r1,r2,r4,r5,r6,r7,r8,r9⟩;have F:∀b,G.O b≠ .ext->b<w.heap.size:=inv.tag
 have Q:∀b,b<w.heap.size->(∀k,G.O b= .ar k->k∉ok)->(∀i,G.O b= .bx i->¬(i∈is/\b=G.β i))->w1.heap[b]? =w.heap[b]? :=λb hb hh ab=>r5 b hb (λj hj=>by
  rcases n b with⟨h,_⟩|⟨k,h1,s,_⟩|⟨j,i,h1,s,Z⟩|h
  ·rw[h]at hj;cases hj
  ·exact hh k s h1
  ·rw[Z]at hj;cases hj
  ·rw[h]at hj;cases hj) (λi' B=>by
  rcases n b with⟨h,_⟩|⟨k,_,_,h⟩|⟨j,i,h1,s,Z⟩|h
  ·rw[h]at B;cases B
  ·rw[h]at B;cases B
  ·exact ab i s.1 ⟨QF h1,s.2⟩
  ·rw[h]at B;cases B)
 have J:∀b,b<w.heap.size->Gc.O b= .ext->A.O b= .ext:=by
  intro b hb hc
  cases hO:A.O b with
  |ext=>rfl
  |_=>
   exfalso;rcases r4 b (by rw[hO];simp)with⟨h1,_⟩|h1|⟨j,h1⟩|⟨i,h1,_⟩
   ·rw[hc]at h1;cases h1
   ·omega
   ·rw[hc]at h1;cases h1
   ·rw[hc]at h1;cases h1
 have as:∀b (j:Nat) i,is[j]? =some i->b=G.β i->A.O b= .bx (100000+j):=by
  intro b j i hj bj;have C:j<z.length:=Eo;have:=(U j z[j] (QE C)).1
  rw[X j (by rw[<-hbl];exact C),E j i hj,<-bj]at this
  exact this
 let G2:Gh:={G with O:=λb=> @ite _ (A.O b= .fz) (Classical.propDecidable _) .fz (match G.O b with| .bx i=> .bx i| .ar k=>if k∈ok then .ext else .ar k|_=> .ext)}
 have M:∀b,A.O b= .fz->G2.O b= .fz:=λb h1=>by simp only[G2];rw[Q9 h1]
 have d_else:∀b,A.O b≠ .fz->G2.O b=(match G.O b with| .bx i=> .bx i| .ar k=>if k∈ok then .ext else .ar k|_=> .ext):=λb h=>by simp only[G2];rw[Q5 h]
 have an:∀b,G.O b= .fz->G2.O b= .fz:=λb hb=>M b (r1 b (I b hb))
 have ai:∀b i,G.O b= .bx i->G2.O b= .bx i:=λb i hb=>by
  have hne:A.O b≠ .fz:=by
   by_cases hi:i∈is/\b=G.β i
   ·obtain⟨j,hj⟩:=QY hi.1
    rw[as b j i hj hi.2];simp
   ·rw[J b (F b AP) (ak b i hb hi)];simp
  rw[d_else b hne,hb]
 have a4:∀b k,G.O b= .ar k->k∉ok->k∉R->G2.O b= .ar k:=λb k hb h1 s=>by
  have hne:A.O b≠ .fz:=by rw[J b (F b (by rw[hb];simp)) (a3 b k hb s h1)];simp
  rw[d_else b hne,hb];simp[h1]
 have hkeep:Keep w w1 G G2:=⟨an,λb hb=>Q b (F b AP) (λk hk=>by rw[hb]at hk;cases hk) (λi hi=>by rw[hb]at hi;cases hi)⟩
 let fm:List Mod:=aV σ R
 let dm:List Mod:=aX σ ok
 have bu:∀m∈fm++dm,∃k en,m= .a k en:=by
  intro m hm;rcases QJ.1 hm with hm|hm
  ·exact bF7 σ R m hm
  ·exact aS3 σ ok m hm
 have ag:∀i,(σ.apps (fm++dm++oM σ.bx is)).bx i=if i∈is then some (((σ.bx i).getD []).map λ_=>V.bot)else σ.bx i:=λi=>by
  rw[dO,bX5,aR5 σ _ bu]
 have af:∀k,(σ.apps fm).ar k=if k∈R then(σ.ar k).map frzE else σ.ar k:=λk=>cH2 σ σ R (λ_=> .inl rfl) k
 have har2:∀k,(σ.apps (fm++dm++oM σ.bx is)).ar k=if k∈ok then(σ.ar k).map bJ2 else if k∈R then(σ.ar k).map frzE else σ.ar k:=by
  intro k;rw[dO,dI5,dO,bP7 σ (σ.apps fm) ok (λk' au hn=>by rw[af,hn];simp) k,af]
 have hgen:∀k en,σ.ar k=some en->∃en2,(σ.apps (fm++dm++oM σ.bx is)).ar k=some en2/\en2.gen=en.gen:=by
  intro k en hen;exact Qz
 have bp:∀k g,σ.hasA k g->(σ.apps (fm++dm++oM σ.bx is)).hasA k g:=λk g ⟨en,h1,s⟩=>by
  exact Qp
 have a0:Inv T Φ (σ.apps (fm++dm++oM σ.bx is)) a w1 G2:=by
  refine inv.change (vM σ _) hkeep (λ_ _=>rfl) (λ_ _ _=>rfl) (λi hi=>?_) bp ?_ ?_ ?_ ?_ ?_ r6 r7 r8 r9
  ·obtain⟨x,hx⟩:=hi
   unfold St.hasB;rw[ag];split
   ·exact⟨_,rfl⟩
   ·exact⟨x,hx⟩
  ·intro i cs hi
   rw[ag]at hi;split at hi
   ·rename_i ay
    cases hi;obtain⟨j,hj⟩:=QY ay;obtain⟨cs,c0,t0,q1,q2,q3,q4⟩:=L j i hj;have C:j<z.length:=Eo;obtain⟨p1,c,t,p2,p3,p4⟩:=U j z[j] (QE C);have a1:A.β (100000+j)=G.β i:=by rw[X j (by rw[<-hbl];exact C),E j i hj]
    rw[a1]at p2;have a6:j<bs.length:=by rw[<-hbl];exact C
    have bb:z[j].length=cs.length:=by
     have W:(z.map List.length)[j]? =some z[j].length:=by simp[C]
     rw[hlens]at W;have e2:(bs.map List.length)[j]? =some bs[j].length:=by simp[a6]
     rw[e2]at W;have:=(S _ _ (gj j i bs[j] hj (QE a6))).1;rw[q1]at this;simp only[TY]at this;rw[this];exact(UC W).symm
    refine .inr ⟨⟨c,t,p2,⟨?_,?_,?_⟩,ai _ i q4⟩,?_⟩
    ·rw[q1];simp[p3,bb]
    ·intro u hu
     obtain⟨q,hq⟩:=QY hu;have bt:q<z[j].length:=by rw[<-p3];simpa using(QD.1 hq).1
     exact(p4 q u _ D8 (QE bt)).1
    ·intro q u x hu hx
     rw[Rk]at hx
     cases hy:((σ.bx i).getD [])[q]? with
     |none=>rw[hy]at hx;cases hx
     |some y=>rw[hy]at hx;simp only[Sr,RS]at hx;subst hx;exact .bot u
    ·refine aH.2 λx hx=>?_
     obtain⟨y,_,rfl⟩:=QZ.1 hx;simp only[V.ok]
   ·rename_i ay
    obtain⟨c,t,q1,q2,q3⟩:=inv.box i cs hi;exact .inl ⟨hi,ai _ i q3,Q _ (F _ Hl) (λk hk=>by rw[q3]at hk;cases hk) (λi' B=>by rw[q3]at B;cases B;exact λh=>ay h.1)⟩
  ·intro k en hen
   rw[har2]at hen;by_cases hk1:k∈ok
   ·exact JS
   ·rw[Q5 hk1]at hen
    have D:∀b,G.O b= .ar k->w1.heap[b]? =w.heap[b]? :=λb hb=>Q b (F b AP) (λk' au=>by rw[hb]at au;cases au;exact hk1) (λi hi=>by rw[hb]at hi;cases hi)
    by_cases ac:k∈R
    ·rw[Q9 ac]at hen
     cases hs:σ.ar k with
     |none=>rw[hs]at hen;cases hen
     |some en0=>
      rw[hs]at hen;simp at hen;have hp:=inv.wfA k en0 hs;have hokk:=inv.arr k en0 hs
      have az:∀b,G.O b= .ar k->G2.O b= .fz:=λb hb=>M b (r1 b (ah b k hb ac))
      have own:∀ {ty},gJ T w G k (G.av k en0.gen) ty en0.l->Rv w1 G2 (G.av k en0.gen) (.sl en0.l):=by
       intro ty a2;rcases a2 with⟨W,e2⟩|⟨b,cap,cur,W,e2,e3,e4,e5,e6,e7,e8⟩
       ·rw[e2];exact bA2 W
       ·obtain⟨cc,q1,q2⟩:=(e8.here e3).out
        rw[W];refine .slS _ cap en0.l _ cc e4 e5 (λ_=>az b e2) e7 (λj y hy=>?_) (λj y hy=>(q2 j y hy).aW hkeep (dF hp hy));refine⟨?_,(q1 j y hy).2⟩;rw[<-(q1 j y hy).1];exact Uj (by rw[add_block];exact D b e2)
      exact NP
    ·rw[Q5 ac]at hen
     exact .inl ⟨hen,λb hb=>⟨a4 b k hb hk1 ac,D b hb⟩⟩
  ·intro b hb
   by_cases hc:A.O b= .fz
   ·exact r2 b (by rw[hc];simp)
   ·rw[d_else b hc]at hb
    have:G.O b≠ .ext:=by intro hO;rw[hO]at hb;exact hb rfl
    have:=F b this;omega
  ·intro b
   by_cases hc:A.O b= .fz
   ·rcases r4 b (by rw[hc];simp)with⟨h1,_⟩|h1|⟨j,h1⟩|⟨i,_,s⟩
    ·rcases n b with⟨_,s|⟨k,s,Z⟩⟩|⟨k,_,_,h⟩|⟨j,i,_,_,h⟩|h
     ·exact .inl (by rw[M b hc,s])
     ·exact .inr (.inr (inv.mineA b k Z))
     ·rw[h1]at h;cases h
     ·rw[h1]at h;cases h
     ·rw[h1]at h;cases h
    ·exact .inr (.inr (.inl (QV inv.size h1)))
    ·rcases n b with⟨h,_⟩|⟨k,_,Z,_⟩|⟨j,i,_,_,h⟩|h
     ·rw[h1]at h;cases h
     ·exact .inr (.inr (inv.mineA b k Z))
     ·rw[h1]at h;cases h
     ·rw[h1]at h;cases h
    ·rw[hc]at s;cases s
   ·exact JR
  ·intro b
   rcases Ry b w.heap.size with hb|hb
   ·by_cases hh:∃k∈ok,G.O b= .ar k
    ·obtain⟨k,_,s⟩:=hh
     exact .inr (inv.mineA b k s)
    ·by_cases ab:∃i∈is,G.O b= .bx i
     ·obtain⟨i,_,s⟩:=ab
      exact .inr (inv.mineB b i s)
     ·exact .inl (Q b hb (λk hk hm=>hh ⟨k,hm,hk⟩) (λi hi hm=>ab ⟨i,hm.1,hi⟩))
   ·exact .inr (.inl (QV inv.size hb))
 have am:∀t b,A.O b= .ar t->G2.O b= .ext/\Φ.mine b/\b<w1.heap.size:=by
  intro t b hb;have hne:A.O b≠ .fz:=AP;have hsz:=r2 b AP
  rcases r4 b AP with⟨_,h1⟩|h1|⟨j,h1⟩|⟨i,_,h1⟩
  ·rw[hb]at h1;cases h1
  ·exact Lh
  ·rcases n b with⟨h,_⟩|⟨k,s,Z,_⟩|⟨j,i,_,_,h⟩|h
   ·rw[h1]at h;cases h
   ·exact⟨by rw[d_else b hne,Z];simp[s],inv.mineA b k Z,hsz⟩
   ·rw[h1]at h;cases h
   ·rw[h1]at h;cases h
  ·rw[hb]at h1;cases h1
 refine⟨v,A,G2,rfl,a9,U,a0,am,⟨M,λ_ _=>rfl⟩,λj i hj=>?_,har2,rfl⟩;have C:j<bs.length:=EL
 rw[X j C,E j i hj]
end
end Go.Ab
