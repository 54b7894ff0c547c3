/-
  Code and functions.
-/
import Derived.Test.YtdjgbagnajikeaaGreatDoorA5
import Derived.KernelRfl
set_option linter.unusedVariables false
set_option linter.unusedSimpArgs false
noncomputable section
namespace Go.Ab
section
variable{T:Tab}{P:Program}{Φ:Fr}{σ:St}{a:Act}{w w':World}{G G':Gh}{K:VK}{o:Oper}{d:Nat}
theorem aS6{b:Md}{n:Nat}{ops:List Oper}{K:St->Prop}:∀(l:List Oper) (σ:St),aY0 T P b n ops l σ.env σ.bx σ.ar K->Run T P b n ops l σ K:=by
 intro l
 induction l with
 |nil=>intro σ h;exact h
 |cons o r g=>
  intro σ h;have f:bH0 T P b n ops o (aY0 T P b n ops r) σ.env σ.bx σ.ar K:=h;exact(aX6 f).mono (λ_ _ _ c=>aR8 c) (λe c=>g e c)
theorem aK7{b:Type}{l m:List b}{x:b}:x∈appR l m↔x∈l\/x∈m:=by rw[bT,QX]
theorem wpIn_loop_ghost{F:Fence}{n:Nat}{Q:Exit->Act->World->Prop}{c:Code}(I:Nat->Act->World->Prop)(b:Nat)(i:I b a w)
 (round:∀h a w,I h a w->c.wpIn F n P (Exit.then (λj w'=>∃m,m<h/\I m j w') Q) a w):(Code.loop c).wpIn F n P Q a w:=by
 refine wpIn_loop (λa w=>∃n,I n a w) (λa w=>leastOf (λn=>I n a w)) ⟨b,i⟩ ?_;intro a w p;refine TV (round _ a w (leastOf_spec p).1) ?_;intro e j w' g
 cases e with
 |normal=>
  obtain⟨h,k,f⟩:=g;exact show(∃n,I n j w')/\leastOf (λn=>I n j w')<leastOf (λn=>I n a w)from⟨⟨h,f⟩,Nat.lt_of_le_of_lt ((leastOf_spec ⟨h,f⟩).2 h f) k⟩
 |exit id=>exact g
 |goto l=>exact g
 |ret=>exact g
 |panic q=>exact g
 |outgrown=>exact g
theorem oK{b:Frame}{k:List Item}{cs:List Frame}{c:Code}:step P (lone (b.atR a (.code (.scope c)::k)) cs w)= .next (lone (b.atR a (.code c:: .inScope c::k)) cs w):=
 step_lone_go (by simp[stepG,stepG.exec,Frame.atR])
theorem bN3{b:Frame}{k:List Item}{cs:List Frame}{c:Code}:step P (lone (b.atR a (.inScope c::k)) cs w)= .next (lone (b.atR a k) cs w):=
 step_lone_go (by simp[stepG,stepG.exec,Frame.atR])
theorem bE2{F:Fence}{n:Nat}{c:Code}{Q:Exit->Act->World->Prop}(h:c.wpIn F n P (λe a w=>match e with| .goto _=>False|e=>Q e a w) a w):(Code.scope c).wpIn F n P Q a w:=by
 intro b k cs v r t;have m:(lone (b.atR a (.code (.scope c)::k)) cs w).fenced P F:=fenced_calm r t rfl;obtain⟨e,g,i,p,f⟩:=h b (.inScope c::k) cs v r t
 cases e with
 |normal=>exact⟨.normal,g,i,p, .head m oK (StepsIn.trans f (.one (fenced_calm r t rfl) bN3))⟩
 |exit j=>
  have x:exitTo j (.inScope c::k)=exitTo j k:=by simp[exitTo]
  exact⟨.exit j,g,i,p,λA s=> .head m oK (f.1 A (by rw[x];exact s)),
   λu s=>let⟨q,y,z⟩:=f.2 u (by rw[x];exact s);⟨q,y, .head m oK z⟩⟩
 |goto l=>exact p.elim
 |ret=>exact⟨_,g,i,p, .of_steps (.one m oK) f⟩
 |panic B=>exact⟨_,g,i,p, .of_steps (.one m oK) f⟩
 |outgrown=>exact⟨_,g,i,p, .of_steps (.one m oK) f⟩
theorem cZ2(hT:bP T P)(hm:P.follows .mixedOrders=true){n:Nat}(c:Code):∀(Φ:Fr) (k:Option Nat) (σ:St) (a:Act) (w:World) (G:Gh) (Q:Exit->St->Prop),(k=none\/iC c=true)->Φ.n=n->(∀d∈dstsOf c,Φ.keep d=none)->Inv T Φ σ a w G->nH T P n c σ Q->c.wpIn (FW k) 0 P (Lift T Φ Q) a w:=by
 induction c with
 |skip=>intro Φ k σ a w G Q _ _ _ inv h;exact wpIn_skip (Lift.of h inv)
 |region id ops ac=>
  intro Φ k σ a w G Q _ v u inv h;subst v;have ae:∀o∈ops.toList,∀d,o.dst=some d->Φ.keep d=none:=λo ho d I=>u d (dP9 ho I);obtain⟨env,bx,ar⟩:=σ
  cases ac with
  |false=>
   have r:aY0 T P .free Φ.n ops.toList ops.toList env bx ar (Q .normal):=h;have hr:=aS6 ops.toList ⟨env,bx,ar⟩ r
   exact wpIn_region_list (eB0 hT rfl k (λq J w' G' u j=>Lift.of u j) ops.toList _ a w G ae inv hr)
  |true=>
   have r:aC9 T env ops.toList (λhv=>aY0 T P (.drawn hv) Φ.n ops.toList ops.toList env bx ar (Q .normal)):=h;replace r:=r.out;obtain⟨cl,hv,h0,Y,h2⟩:=r;have hr:=aS6 ops.toList ⟨env,bx,ar⟩ h2
   exact bC4 hT k hm rfl ae Y (dC3 inv.wfE h0) (λq J w' G' u j=>Lift.of u j) id inv hr
 |seq x y F H=>
  intro Φ k σ a w G Q t v u inv h;have r:dG2 T (nH T P n x) (nH T P n y) σ Q:=h;replace r:=r.out;have M:∀d∈dstsOf x,Φ.keep d=none:=λd I=>u d (aK7.2 (.inl I))
  have N:∀d∈dstsOf y,Φ.keep d=none:=λd I=>u d (aK7.2 (.inr I));have S:k=none\/iC x=true:=t.imp id λhh=>KP
  have U:k=none\/iC y=true:=t.imp id λhh=>KP;refine wpIn_seq ?_;rcases r with Y|⟨C,Y,h2⟩
  ·refine TV (F Φ k σ a w G _ S v M inv Y) ?_
   rintro e J w' ⟨A,q,G',B,j,mk⟩
   cases e with
   |normal=>exact TV (H (Fr.at {Φ with ds:=A++Φ.ds} w' G') k q J w' G' Q U v N j.up B) (λe a w h=>Lift.back j mk h)
   |_=>exact⟨A,q,G',B,j,mk⟩
  ·refine TV (F Φ k σ a w G _ S v M inv Y) ?_
   rintro e J w' ⟨A,q,G',B,j,mk⟩
   cases e with
   |normal=>
    obtain⟨p,Z,ad⟩:=B;obtain⟨G2,z⟩:=Z.out j.up;have E:=j.down j.aF0 z rfl rfl rfl rfl rfl rfl rfl rfl
    have aa:Marks Φ.w0 w' G2 A:=by
     obtain⟨Ds,e1,e2,e3⟩:=mk;refine⟨Ds,e1,e2,λD hD=>?_⟩;obtain⟨q1,q2,q3⟩:=e3 D hD;exact⟨q1,q2,(z.mP (w0:=w') (G0:=G') rfl rfl rfl (Rj.1 q2).1 q3).2⟩
    exact TV (H (Fr.at {Φ with ds:=A++Φ.ds} w' G2) k _ J w' G2 Q U v N E.up (h2 p ad)) (λe a w h=>Lift.back E aa h)
   |_=>exact⟨A,q,G',B,j,mk⟩
 |cond c x y F H=>
  intro Φ k σ a w G Q t v u inv h
  have r:(match σ.ev c with
   | .lit (.bool b)=>branch b (nH T P n x σ Q) (nH T P n y σ Q)
   |_=>False):=h
  have M:∀d∈dstsOf x,Φ.keep d=none:=λd I=>u d (aK7.2 (.inl I));have N:∀d∈dstsOf y,Φ.keep d=none:=λd I=>u d (aK7.2 (.inr I))
  have S:k=none\/iC x=true:=t.imp id λhh=>KP;have U:k=none\/iC y=true:=t.imp id λhh=>KP
  have he:=(inv.ev c).1;split at r
  ·rename_i b hb
   rw[hb]at he
   cases b with
   |true=>exact wpIn_cond_true he.bH (F Φ k σ a w G Q S v M inv r)
   |false=>exact wpIn_cond_false he.bH (H Φ k σ a w G Q U v N inv r)
  ·exact r.elim
 |block id c ih=>
  intro Φ k σ a w G Q t v u inv h;refine wpIn_block (TV (ih Φ k σ a w G _ t v u inv h) ?_);rintro e J w' ⟨A,q,G',B,j,mk⟩
  cases e with
  |exit i=>
   have O:cond (Nat.beq i id) (Q .normal q) (Q (.exit i) q):=B;show Exit.inBlock id (Lift T Φ Q) (.exit i) J w';by_cases hi:i=id
   ·subst hi
    have hb:Nat.beq i i=true:=Nat.beq_refl i;rw[hb]at O;simp only[Exit.inBlock,TY];exact⟨A,q,G',O,j,mk⟩
   ·have hb:Nat.beq i id=false:=by rw[<-TU,Tv];exact hi
    rw[hb]at O;simp only[Exit.inBlock,Q5 hi];exact⟨A,q,G',O,j,mk⟩
  |_=>exact⟨A,q,G',B,j,mk⟩
 |loop c ih=>
  intro Φ k σ a w G Q t v u inv h;have r:bI0 T (nH T P n c) σ Q:=h;replace r:=r.out;obtain⟨L,⟨p0,af,aj⟩,R⟩:=r;obtain⟨G0,inv0⟩:=af.out inv;refine wpIn_loop_ghost (λn a w=>∃p A G,L.m p=n/\L.inv p/\Inv T {Φ with ds:=A++Φ.ds} (L.st p) a w G/\Marks Φ.w0 w G A) (L.m p0) ⟨p0,[],G0,rfl,aj,inv0,Marks.nil _ _ _⟩ ?_;rintro n' J w' ⟨p,A,G1,rfl,hi,X,mk⟩;refine TV (ih (Fr.at {Φ with ds:=A++Φ.ds} w' G1) k _ J w' G1 _ t v u X.up (R p hi)) ?_;rintro e a2 w2 hL;obtain⟨ab,q,G',B,j,ah⟩:=Lift.back X mk hL
  cases e with
  |normal=>
   obtain⟨p',Z,ai,ak⟩:=B;obtain⟨G2,z⟩:=Z.out j.up;have E:=j.down j.aF0 z rfl rfl rfl rfl rfl rfl rfl rfl
   have aa:Marks Φ.w0 w2 G2 ab:=by
    obtain⟨Ds,e1,e2,e3⟩:=ah;refine⟨Ds,e1,e2,λD hD=>?_⟩;obtain⟨q1,q2,q3⟩:=e3 D hD;exact⟨q1,q2,(z.mP (w0:=w2) (G0:=G') rfl rfl rfl (Rj.1 q2).1 q3).2⟩
   exact⟨L.m p',ak,p',ab,G2,rfl,ai,E,aa⟩
  |_=>exact⟨ab,q,G',B,j,ah⟩
 |rangeFunc f ps x y F H=>
  intro Φ k σ a w G Q t v u inv h
  have ag:k=none:=by
   rcases t with h|h
   ·exact h
   ·cases(h:false=true)
  subst ag
  have r:(match σ.ev f with
   | .fn g W=>cond (allR V.still W) (cond (iC x) (cond (iC y) (cond (allR (λp=>Nat.blt p n) ps.toList) (aO0 T P f g W ps.toList (appR ps.toList (appR (dstsOf x) (dstsOf y))) (nH T P n x) (nH T P n y) σ Q) False) False) False) False
   |_=>False):=h
  split at r
  ·obtain⟨Y,r⟩:=aT r
   obtain⟨h2,r⟩:=aT r;obtain⟨h3,r⟩:=aT r;obtain⟨h4,r⟩:=aT r;rw[bT,bT]at r;refine cI6 v (λΦ k σ a w G Q=>F Φ k σ a w G Q (.inr h2)) (λΦ k σ a w G Q=>H Φ k σ a w G Q (.inr h3)) (λp hp=>blt (dY.1 h4 p hp)) ?_ Y inv r;intro d I;refine u d ?_;show d∈appR ps.toList (appR (dstsOf x) (dstsOf y));rw[bT,bT];exact I
  ·exact r.elim
 |exit id=>intro Φ k σ a w G Q _ _ _ inv h;exact wpIn_exit (Lift.of h inv)
 |scope c ih=>
  intro Φ k σ a w G Q t v u inv h;refine bE2 (TV (ih Φ k σ a w G _ t v u inv h) ?_);rintro e J w' ⟨A,q,G',B,j,mk⟩
  cases e with
  |goto l=>exact B.elim
  |_=>exact⟨A,q,G',B,j,mk⟩
 |label l=>intro Φ k σ a w G Q _ _ _ inv h;exact wpIn_label (Lift.of h inv)
 |goto l=>intro Φ k σ a w G Q _ _ _ inv h;exact(h:False).elim
 |ret=>intro Φ k σ a w G Q _ _ _ inv h;exact wpIn_ret (Lift.of h inv)
 |refuse s=>intro Φ k σ a w G Q _ _ _ inv h;exact(h:False).elim
theorem cL7{f:Func}{R:Ending->World->Prop}{u:FrameMode}(m:u≠ .run){tmps:Array Value}:∀(c:List Deferred) (w:World),Inv T Φ σ a w G->Φ.ds=[]->a.tmps=tmps->Marks Φ.w0 w G c->(∀w',Inv T Φ σ a w' G->LeavesInM (FW none) 0 P f tmps R [] u w')->LeavesInM (FW none) 0 P f tmps R c u w:=by
 intro c
 induction c with
 |nil=>intro w inv _ _ _ h;exact h w inv
 |cons d c n=>
  intro w inv j l mk h;obtain⟨e,b,g,i⟩:=mk
  cases e with
  |nil=>cases b
  |cons D e=>
   rw[Rq]at b;injection b with e0 b;subst e0;obtain⟨q,r,s⟩:=i D Af;refine⟨m, .inl ⟨D,_,rfl,run_takeDeferred r,?_⟩⟩;refine n _ (inv.quiet (aF9 s q)) j l ⟨e,b,(List.nodup_cons.1 g).2,λt k=>?_⟩ h
   grind [Tj,World.putObj_heap_other,List.nodup_cons]
theorem wM(z:bP T P)(D:P.follows .mixedOrders=true){f:FuncId}{k:Func}{c:Code}{args:Array Value}{Q:Exit->St->Prop}{R:Ending->World->Prop}(C:P.funcs[f]? =some k)(A:k.body=some c)(q:Φ.ds=[])(t:Φ.keep=λ_=>none)(E:Φ.n=k.ntmps)
 (inv:Inv T Φ σ {tmps:=args++Array.replicate (k.ntmps-args.size) undef,defers:=[]} w G)(h:nH T P k.ntmps c σ Q)
 (l:∀(e:Exit) (b:St) (j:Act) (w':World) (G':Gh),Q e b->Inv T Φ b j w' G'->(e= .normal\/e= .ret)/\∃v,(results k j.tmps).run P w'= .ok v w'/\R (.returned v) w'):Calls P f args w R:=by
 refine bD0.1 (callsIn_of_wp_marks (F:=FW none) C A trivial (TV (cZ2 z D c Φ none σ _ w G Q (.inl rfl) E (λd _=>by rw[t]) inv h) ?_) rfl)
 rintro e j w' ⟨y,b,G',u,g,mk⟩;have i:Inv T Φ b {j with defers:=[]} w' G':=g.aQ1 [] rfl rfl rfl rfl rfl rfl q (λs v x=>by rw[t]at x;cases x)
 have r:j.defers=y:=by
  have:=g.nd;rw[q]at this;simpa using this
 obtain⟨B,_⟩:=l e b _ w' G' u i
 have done:LeavesInM (FW none) 0 P k j.tmps R j.defers .returning w':=by
  rw[r];refine cL7 Af y w' i q rfl mk λH m=>?_;exact(l e b _ H G' u m).2
 rcases B with rfl|rfl
 ·exact done
 ·exact done
theorem gG2{w:World}{G:Gh}{v:Value}{rs:List V}(h:∀q,rs≠ .bot::q):Rr T w G v (.tup rs)=∃vs:Array Value,v= .tuple vs/\vs.size=rs.length/\∀(j:Nat) u y,vs[j]? =some u->rs[j]? =some y->Rb T w G j u y:=by
 simp_all [Rr]
theorem gB6{ar:Nat->Option AE}{ys xs:List V}(h:iQ T ar ys xs):∀q,ys≠ .bot::q:=by
 rintro q rfl
 cases xs with
 |nil=>exact h.elim
 |cons x xr=>exact(h.1:False)
theorem cF9(inv:Inv T Φ σ a w G){xs ys:List V}(e:iQ T σ.ar ys xs)(l:iR xs ys=true)(vs:List Value)(A:∀(i:Nat) v x,vs[i]? =some v->xs[i]? =some x->Rv w G v x/\x.ok σ.hasB σ.hasA):
 ∃Gc:Gh,(∀(j:Nat) v y,vs[j]? =some v->ys[j]? =some y->Rb T w Gc j v y)/\(∀b,G.O b= .fz->Gc.O b= .fz)/\(∀b i,Gc.O b≠ .bx i)/\(∀b,Gc.O b≠ .ext->(G.O b= .fz/\Gc.O b= .fz)\/∃k,G.O b= .ar k):=by
 obtain⟨hlen,I⟩:=qM e;simp only[iR,Ri]at l;have L:=uU.1 l.1
 have s:∀k∈bD ys xs,k∉bK ys xs:=λk hk Q=>by
  grind [dY,pM]
 generalize z:bD ys xs=ok at*;generalize N:bK ys xs=D at*
 let f:Nat->Nat:=λk=> @dite _ (∃j,zW xs ys j k) (Classical.propDecidable _) (λh=>h.choose) (λ_=>0)
 have n:∀ {j k},zW xs ys j k->f k=j:=by
  intro j k M;have H:∃j,zW xs ys j k:=⟨j,M⟩;grind [aK3]
 let Gc:Gh:={G with O:=λb=>match G.O b with| .fz=> .fz| .ar k=>if k∈D then .fz else if k∈ok then .ar (f k)else .ext|_=> .ext}
 have c:∀b,G.O b= .fz->Gc.O b= .fz:=λb hb=>BX;have B:∀b i,G.O b= .bx i->Gc.O b= .ext:=λb i hb=>BX
 have r:∀b,G.O b= .ext->Gc.O b= .ext:=λb hb=>BX;have C:∀b k,G.O b= .ar k->k∈D->Gc.O b= .fz:=λb k hb hk=>Ea
 have g:∀b k,G.O b= .ar k->k∈ok->Gc.O b= .ar (f k):=λb k hb hk=>by
  grind
 have t:Keep w w G Gc:=⟨c,λ_ _=>rfl⟩;refine⟨Gc,?_,c,?_,?_⟩
 ·intro j v y hv hy
  have J:j<xs.length:=EU;have q:xs[j]? =some xs[j] :=QS J
  obtain⟨E,F⟩:=A j v _ hv q;refine aJ2 inv t (I j _ y q hy) E F (λu k hk b hb=>?_) (λu k hk b hb=>?_)
  ·grind [nP]
  ·have m:k∈ok:=by rw[<-z];exact oZ.2 ⟨j,_,y,q,hy,u,hk⟩
   rw[g b k hb m,n ⟨_,y,q,hy,u,hk⟩]
 ·grind
 ·grind
def aE3(a:Act):ResultVar->Sem Value
 | .tmp t=>pure (a.tmps.getD t undef)
 | .cell b t=>do loadVar t (<-asAddr (a.tmps.getD b undef))
theorem aQ5(s:bP T P)(inv:Inv T Φ σ a w G):∀(rs:List ResultVar) (K:List V->Prop),aH3 T σ rs K->
 ∃(xs:List V) (vs:List Value),K xs/\vs.length=xs.length/\vs.length=rs.length/\(∀(i:Nat) v x,vs[i]? =some v->xs[i]? =some x->Rv w G v x/\x.ok σ.hasB σ.hasA)/\
  (rs.mapM (aE3 a)).run P w= .ok vs w:=by
 intro rs
 induction rs with
 |nil=>intro K h;exact⟨[],[],h,rfl,rfl,λi v x hv=>by simp at hv,Af⟩
 |cons x r B=>
  intro K h
  have f:∀(v:V) (u:Value),Rv w G u v->v.ok σ.hasB σ.hasA->(aE3 a x).run P w= .ok u w->(aH3 T σ r λvs=>K (v::vs))->
   ∃(xs:List V) (vs:List Value),K xs/\vs.length=xs.length/\vs.length=(x::r).length/\(∀(i:Nat) v x,vs[i]? =some v->xs[i]? =some x->Rv w G v x/\x.ok σ.hasB σ.hasA)/\
    ((x::r).mapM (aE3 a)).run P w= .ok vs w:=by
   intro v u hv E c e;obtain⟨xs,vs,m,h2,q,C,D⟩:=B _ e;refine⟨v::xs,u::vs,m,Hr,by simp[q],?_,?_⟩
   ·grind
   ·simp_all
  cases x with
  |tmp t=>
   have g:force (σ.env t) (λv=>aH3 T σ r λvs=>K (v::vs)):=h;rw[force_eq]at g;exact f _ _ (inv.env t) (inv.wfE t) (by simp[aE3]) g
  |cell b t=>
   have g:cond (Nat.blt t (T.n t)) (pW (T.row t) σ (σ.env b) λv _=>aH3 T σ r λvs=>K (v::vs)) False:=h;obtain⟨A,h2⟩:=aT g;obtain⟨l,v',v,y,c,z,hv,k⟩:=cG1 s inv t (.tmp b) (blt A) h2;have j:a.tmps.getD b undef= .pointer (some l):=y
   exact f v v' hv k (by simp only[aE3,j,asAddr,Sr,SQ,Rt,c]) z
def aI1(vs:List Value):Value:=match vs with| [v] =>v|vs=> .tuple vs.toArray
theorem aD1{b:Func}{vs:List Value}(h:(b.results.toList.mapM (aE3 a)).run P w= .ok vs w):
 (results b a.tmps).run P w= .ok (aI1 vs) w:=by
 have c:(b.results.mapM (aE3 a)).run P w= .ok vs.toArray w:=by
  simp_all [Array.mapM_eq_mapM_toList,Rt]
 have e:(results b a.tmps)=(do let vs<-b.results.mapM (aE3 a);pure (if h:vs.size=1 then vs[0]else .tuple vs)):=by
  unfold results;congr 1
 rw[e];simp only[Sr,c,Rt,SQ];congr 1
 match vs with
 | [] =>rfl
 | [v] =>rfl
 |v::u::r=>simp;rfl
theorem lY:∀(ys:List V) (j s:Nat),pF ys j s=if j<=s then(match ys[s-j]? with|some y=>cond (linear y) (.arr s 0) y|none=> .tup [])else .tup [] :=by
 intro ys
 induction ys with
 |nil=>intro j s;show V.tup [] =_;split<;>simp
 |cons y r ih=>
  intro j s;show cond (Nat.beq s j) (cond (linear y) (.arr j 0) y) (pF r (j+1) s)=_;by_cases e:s=j
  ·simp_all
  ·exact Lr
theorem gY:∀(ys:List V) (j s:Nat),jK ys j s=if j<=s then(match ys[s-j]? with|some (.own e l)=>some ⟨0, .own,e,l⟩|some (.ap e l)=>some ⟨0, .ap,e,l⟩|_=>none)else none:=by
 intro ys
 induction ys with
 |nil=>intro j s;show none=_;split<;>simp
 |cons y r ih=>
  intro j s;show cond (Nat.beq s j) (match y with| .own e l=>some (⟨0, .own,e,l⟩:AE)| .ap e l=>some ⟨0, .ap,e,l⟩|_=>none) (jK r (j+1) s)=_
  by_cases e:s=j
  ·subst e
   rw[show Nat.beq s s=true from Nat.beq_refl s];grind
  ·exact Lr
theorem eH1(L:bP T P)(hm:P.follows .mixedOrders=true){f:FuncId}{fn:Func}(hf:P.funcs[f]? =some fn)(N:callable P f=true){ys:List V}{r:V}(hn:ys.length<=fn.ntmps)(h:fnVC T P fn ys r):Spec T P f ys r:=by
 refine⟨N,?_⟩;intro w G cs hcs J M hargs aa;unfold fnVC at h;split at h
 ·rename_i c hb
  let Φ:Fr:=⟨w,λb=>∃j,G.O b= .ar j,λb=>G.O b= .fz,fn.ntmps,λ_=>none,λ_=>none,[],λ_=>none⟩
  let G0:Gh:={G with av:=λk _=>cs.getD k undef}
  have hkeep:Keep w w G G0:=⟨λ_ h=>h,λ_ _=>rfl⟩
  have hrb:∀(j:Nat) y,ys[j]? =some y->Rb T w G j (cs.getD j undef) y:=by
   intro j y hy;exact PE
  have ab:∀ {j u e l},gJ T w G j u e l->u.oneCell'=true:=by
   intro j u e l h;exact Pg
  have Z:∀ {u l},Rv w G u (.cap l)->u.oneCell'=true:=by
   intro u l h;exact P6
  have inv:Inv T Φ (uD ys) {tmps:=cs++Array.replicate (fn.ntmps-cs.size) undef,defers:=[]} w G0:=by
   constructor
   ·rfl
   ·intro s v h;cases h
   ·grind
   ·intro s
    exact O7
   ·intro s
    exact OM
   ·intro i cs' hi
    exact Oy
   ·intro i cs' hi
    exact Oy
   ·intro k en hen
    exact OI
   ·intro k en hen
    exact OJ
   ·exact J
   ·intro b i hb;exact absurd hb (M b i)
   ·intro b k hb;exact .inr ⟨k,hb⟩
   ·intro b hb;exact .inl hb
   ·intro b hb;exact hb
   ·intro b _ _;rfl
   ·exact QV _
   ·rfl
   ·rfl
   ·rfl
   ·intro j v h;cases h
   ·grind
   ·intro i b h;cases h
  refine wM L hm hf hb (Φ:=Φ) rfl rfl rfl inv h ?_
  have fin:∀(e:Exit) (σ:St) (a':Act) (w':World) (G':Gh),dF3 T σ fn.results.toList r->Inv T Φ σ a' w' G'->∃v,(results fn a'.tmps).run P w'= .ok v w'/\∃v0 g,(Ending.returned v= .returned v0)/\Rr T w' g v0 r/\
   (∀b,G.O b= .fz->g.O b= .fz)/\(∀b,g.O b≠ .ext->b<w'.heap.size)/\(∀b i,g.O b≠ .bx i)/\
   (∀b,g.O b≠ .ext->(G.O b= .fz/\g.O b= .fz)\/w.heap.size<=b\/∃j,G.O b= .ar j)/\
   (∀b,b<w.heap.size->(∀j,G.O b≠ .ar j)->w'.heap[b]? =w.heap[b]?)/\
   w.heap.size<=w'.heap.size/\w'.os=w.os/\w'.tape=w.tape/\w'.output=w.output:=by
   intro e σ a' w' G' m inv';rcases m.out with m|m
   rotate_left
   ·obtain⟨xs,vs,F,z,Q,H,B⟩:=aQ5 L inv' _ _ m
    have A:=aD1 B;refine⟨aI1 vs,A,aI1 vs,?_⟩
    have frame:(∀b,b<w.heap.size->(∀j,G.O b≠ .ar j)->w'.heap[b]? =w.heap[b]?)/\w.heap.size<=w'.heap.size/\w'.os=w.os/\w'.tape=w.tape/\w'.output=w.output:=
     ⟨λb hb hj=>inv'.frame b hb (λ⟨j,h⟩=>hj j h),inv'.size,inv'.os,inv'.tape,inv'.output⟩
    split at F
    ·obtain⟨n,cs,rfl,rfl,C,I⟩:=F
     obtain⟨v,rfl⟩:∃v,vs=[v] :=UC.1 z;obtain⟨W,X⟩:=H 0 v (.agg cs) rfl rfl
     obtain⟨E,rfl,hl,ho,N⟩:∃E:Array Value,v= .agg E/\E.size=cs.length/\(∀c∈E,c.oneCell'=true)/\∀(i:Nat) c x,E[i]? =some c->cs[i]? =some x->Rv w' G' c x:=by
      cases W<;>grind
     have U:=aH.1 (by simpa only[V.ok]using X:V.okL σ.hasB σ.hasA cs)
     obtain⟨g,q1,q2,q3,q4⟩:=cF9 inv' C I E.toList (λi u x hu hx=>⟨N i u x Bj hx,U x (QT hx)⟩);have D:=(qM C).1
     refine⟨g,rfl,⟨E,rfl,Aa,ho,λj u y hu hy=>q1 j u y Bj hy⟩,λb hb=>q2 b (inv'.F0 b hb),λb hb=>inv'.tag b ?_,q3,λb hb=>?_,frame⟩
     ·grind
     ·exact Ju
    ·exact F.elim
   obtain⟨xs,vs,F,z,Q,H,B⟩:=aQ5 L inv' _ _ m;have A:=aD1 B;refine⟨aI1 vs,A,aI1 vs,?_⟩
   have t:∀(n:List V),iQ T σ.ar n xs->iR xs n=true->∃g:Gh,(∀(j:Nat) v y,vs[j]? =some v->n[j]? =some y->Rb T w' g j v y)/\
    (∀b,G.O b= .fz->g.O b= .fz)/\(∀b,g.O b≠ .ext->b<w'.heap.size)/\(∀b i,g.O b≠ .bx i)/\
    (∀b,g.O b≠ .ext->(G.O b= .fz/\g.O b= .fz)\/w.heap.size<=b\/∃j,G.O b= .ar j):=by
    intro n h1 h2;obtain⟨Gc,q1,q2,q3,q4⟩:=cF9 inv' h1 h2 vs H;refine⟨Gc,q1,λb hb=>q2 b (inv'.F0 b hb),λb hb=>inv'.tag b ?_,q3,λb hb=>?_⟩
    ·grind
    ·exact Ju
   have frame:(∀b,b<w.heap.size->(∀j,G.O b≠ .ar j)->w'.heap[b]? =w.heap[b]?)/\w.heap.size<=w'.heap.size/\w'.os=w.os/\w'.tape=w.tape/\w'.output=w.output:=
    ⟨λb hb hj=>inv'.frame b hb (λ⟨j,h⟩=>hj j h),inv'.size,inv'.os,inv'.tape,inv'.output⟩
   split at F
   ·rename_i x
    obtain⟨C,I,g3⟩:=F;obtain⟨g,q1,q2,q3,q4,Y⟩:=t [r] C I
    match vs,z with
    | [v],_=>
      refine⟨g,rfl,?_,q2,q3,q4,Y,frame⟩;exact P9
   ·rename_i S
    obtain⟨n,rfl,C,I⟩:=F;obtain⟨g,q1,q2,q3,q4,Y⟩:=t n C I;have D:=(qM C).1;refine⟨g,rfl,?_,q2,q3,q4,Y,frame⟩;have R:∀q,n≠ .bot::q:=gB6 C
    rw[gG2 R];refine⟨vs.toArray,?_,by simp[z,D],λj u y hu hy=>q1 j u y Bj hy⟩
    match vs,xs,z with
    | [],_,_=>rfl
    | [v],[x],_=>exact absurd rfl (S x)
    |v::u::rr,_,_=>rfl
  intro e σ a' w' G' hq inv';exact NM
 ·exact h.elim
theorem cE4(hT:bP T P)(hm:P.follows .mixedOrders=true){f:FuncId}{fn:Func}(hf:P.funcs[f]? =some fn)(hc:callable P f=true){ys:List V}{r:V}(hn:ys.length<=fn.ntmps){g:Nat}{B:TypeId}{lo li:List V}(U:g<8)(Z:ys[g]? =some (.own B li))(h:fnIO T P fn ys r g B lo):bE5 T P f ys r g B lo:=by
 refine⟨hc,?_⟩;intro w G cs hcs L S hargs ab;unfold fnIO at h;split at h
 ·rename_i c hb
  let Φ:Fr:=⟨w,λb=>∃j,G.O b= .ar j,λb=>G.O b= .fz,fn.ntmps,λj=>if j=g then some (cs.getD g undef)else none,λ_=>none,[],λ_=>none⟩
  let G0:Gh:={G with av:=λk _=>cs.getD k undef}
  have hkeep:Keep w w G G0:=⟨λ_ h=>h,λ_ _=>rfl⟩
  have hrb:∀(j:Nat) y,ys[j]? =some y->Rb T w G j (cs.getD j undef) y:=by
   intro j y hy;exact PE
  have N:∀ {j u e l},gJ T w G j u e l->u.oneCell'=true:=by
   intro j u e l h;exact Pg
  have aa:∀ {u l},Rv w G u (.cap l)->u.oneCell'=true:=by
   intro u l h;exact P6
  have inv:Inv T Φ (uD ys) {tmps:=cs++Array.replicate (fn.ntmps-cs.size) undef,defers:=[]} w G0:=by
   constructor
   ·rfl
   ·intro s v h;cases h
   ·grind
   ·intro s
    exact O7
   ·intro s
    exact OM
   ·intro i cs' hi
    exact Oy
   ·intro i cs' hi
    exact Oy
   ·intro k en hen
    exact OI
   ·intro k en hen
    exact OJ
   ·exact L
   ·intro b i hb;exact absurd hb (S b i)
   ·intro b k hb;exact .inr ⟨k,hb⟩
   ·intro b hb;exact .inl hb
   ·intro b hb;exact hb
   ·intro b _ _;rfl
   ·exact QV _
   ·rfl
   ·rfl
   ·rfl
   ·intro j v h
    have h':(if j=g then some (cs.getD g undef)else none)=some v:=h
    split at h'
    ·rename_i e
     subst e;cases h';refine⟨rfl,U,?_⟩;show∃en,jK ys 0 j=some en;rw[gY];simp_all
    ·cases h'
   ·grind
   ·intro i b h;cases h
  refine wM hT hm hf hb (Φ:=Φ) rfl rfl rfl inv h ?_
  have fin:∀(e:Exit) (σ:St) (a':Act) (w':World) (G':Gh),dC6 T σ fn.results.toList r g B lo->Inv T Φ σ a' w' G'->∃v,(results fn a'.tmps).run P w'= .ok v w'/\∃v0 m,(Ending.returned v= .returned v0)/\(Rr T w' m v0 r/\IoX T g B lo cs w' m)/\
   (∀b,G.O b= .fz->m.O b= .fz)/\(∀b,m.O b≠ .ext->b<w'.heap.size)/\(∀b i,m.O b≠ .bx i)/\
   (∀b,m.O b≠ .ext->(G.O b= .fz/\m.O b= .fz)\/w.heap.size<=b\/∃j,G.O b= .ar j)/\
   (∀b,b<w.heap.size->(∀j,G.O b≠ .ar j)->w'.heap[b]? =w.heap[b]?)/\
   w.heap.size<=w'.heap.size/\w'.os=w.os/\w'.tape=w.tape/\w'.output=w.output:=by
   intro e σ a' w' G' A inv';replace A:=A.out;obtain⟨xs,vs,W,F,ae,ag,J⟩:=aQ5 hT inv' _ _ A;have I:=aD1 J;refine⟨aI1 vs,I,aI1 vs,?_⟩;obtain⟨C,_,R,E⟩:=inv'.args g (cs.getD g undef) (by show(if g=g then some (cs.getD g undef)else none)=_;rw[QO rfl])
   have H:(cs.getD g undef).oneCell'=true:=by
    have hr:=hrb g _ Z;exact N hr.2.2
   have X:Rv w' G' (cs.getD g undef) (.arr g 0)/\(V.arr g 0).ok σ.hasB σ.hasA:=by
    refine⟨?_,by simp only[V.ok];exact⟨R,E,RI _⟩⟩
    have:=Rv.arr (w:=w') (G:=G') g 0 (by rw[C];exact H)
    rw[C]at this;exact this
   have M:∀(i:Nat) v x,(vs++[cs.getD g undef])[i]? =some v->(xs++[V.arr g 0])[i]? =some x->Rv w' G' v x/\x.ok σ.hasB σ.hasA:=by
    intro i v x hv hx;rcases RX i vs.length with hi|hi
    ·grind
    ·have ac:i=vs.length:=by
      grind
     simp_all
   have t:∀(n:List V),iQ T σ.ar (n++[.own B lo]) (xs++[.arr g 0])->iR (xs++[.arr g 0]) (n++[.own B lo])=true->∃m:Gh,(∀(j:Nat) v y,vs[j]? =some v->n[j]? =some y->Rb T w' m j v y)/\IoX T g B lo cs w' m/\
    (∀b,G.O b= .fz->m.O b= .fz)/\(∀b,m.O b≠ .ext->b<w'.heap.size)/\(∀b i,m.O b≠ .bx i)/\
    (∀b,m.O b≠ .ext->(G.O b= .fz/\m.O b= .fz)\/w.heap.size<=b\/∃j,G.O b= .ar j):=by
    intro n h1 h2;obtain⟨Gc,q1,q2,q3,q4⟩:=cF9 inv' h1 h2 (vs++[cs.getD g undef]) M;have z:=(qM h1).1;simp only[QU,Rf,SL]at z;refine⟨Gc,λj v y hv hy=>?_,?_,λb hb=>q2 b (inv'.F0 b hb),λb hb=>inv'.tag b ?_,q3,λb hb=>?_⟩
    ·grind
    ·have hq:=q1 vs.length (cs.getD g undef) (.own B lo) Af (by rw[Ut (by omega)];rw[show vs.length-n.length=0 by omega];rfl)
     exact⟨hq.2.1,_,hq.2.2⟩
    ·grind
    ·exact Ju
   have frame:(∀b,b<w.heap.size->(∀j,G.O b≠ .ar j)->w'.heap[b]? =w.heap[b]?)/\w.heap.size<=w'.heap.size/\w'.os=w.os/\w'.tape=w.tape/\w'.output=w.output:=
    ⟨λb hb hj=>inv'.frame b hb (λ⟨j,h⟩=>hj j h),inv'.size,inv'.os,inv'.tape,inv'.output⟩
   split at W
   ·rename_i x
    obtain⟨D,Q,_,g3⟩:=W;obtain⟨m,q1,q0,q2,q3,q4,q5⟩:=t [r] D Q;obtain⟨v,rfl⟩:∃v,vs=[v] :=UC.1 F;refine⟨m,rfl,⟨?_,q0⟩,q2,q3,q4,q5,frame⟩;exact P9
   ·rename_i af
    obtain⟨n,rfl,D,Q⟩:=W;rw[bT,bT]at D Q;obtain⟨m,q1,q0,q2,q3,q4,q5⟩:=t n D Q;have z:=(qM D).1;simp only[QU,Rf,SL]at z;refine⟨m,rfl,⟨?_,q0⟩,q2,q3,q4,q5,frame⟩;have Y:∀q,n≠ .bot::q:=λq e=>by subst e;exact gB6 D (q++[.own B lo]) rfl
    rw[gG2 Y];refine⟨vs.toArray,?_,by simp[F];omega,λj u y hu hy=>q1 j u y Bj hy⟩
    exact OC
  intro e σ a' w' G' hq inv';exact NM
 ·exact h.elim
end
def kW(b:List V):Nat->List V:=
 List.rec (motive:=λ_=>Nat->List V) (λ_=> []) (λy _ ih t=>cond (linear y) (.arr t 0) y::ih (t+1)) b
def bB3(bs:List (List V)):Nat->Nat->Option (List V):=
 List.rec (motive:=λ_=>Nat->Nat->Option (List V)) (λ_ _=>none) (λb _ ih j s=>cond (Nat.beq s (100000+j)) (some (kW b (100000*(j+1)))) (ih (j+1) s)) bs
def vT(bs:List (List V)):Nat->Nat->Option AE:=
 List.rec (motive:=λ_=>Nat->Nat->Option AE) (λ_ _=>none) (λb _ ih j s=>match jK b (100000*(j+1)) s with|some en=>some en|none=>ih (j+1) s) bs
def aG1(ys:List V)(bs:List (List V)):St:=⟨pF ys 0,bB3 bs 0,λs=>match jK ys 0 s with|some en=>some en|none=>vT bs 0 s⟩
def iP(bs:List (List V)):Nat->List Nat:=List.rec (motive:=λ_=>Nat->List Nat) (λ_=> []) (λ_ _ ih j=>(100000+j)::ih (j+1)) bs
def aT2(bx:Nat->Option (List V))(gs:Grp)(is:List Nat):Bool:=aE7 (ownG gs)&&allR (λk=> !memR k (mF gs)) (ownG gs)&&allR (λi=>isS (bx i)) is
structure retB(T:Tab)(σ:St)(rs:List ResultVar)(r:V)(bs:List (List V)):Prop where
 out:aH3 T σ rs λxs=>match xs with
  | [x] =>xM T σ.ar (iP bs 0) (([x],[r])::eU σ.bx bs (iP bs 0))/\aT2 σ.bx (([x],[r])::eU σ.bx bs (iP bs 0)) (iP bs 0)=true/\(∀rs,r≠ .tup rs)
  |xs=>∃ys,r= .tup ys/\xM T σ.ar (iP bs 0) ((xs,ys)::eU σ.bx bs (iP bs 0))/\aT2 σ.bx ((xs,ys)::eU σ.bx bs (iP bs 0)) (iP bs 0)=true
def jR(T:Tab)(P:Program)(fn:Func)(ys:List V)(bs:List (List V))(r:V)(bs':List (List V)):Prop:=
 match fn.body with
 |some c=>nH T P fn.ntmps c (aG1 ys bs) λe σ=>match e with
  | .normal=>retB T σ fn.results.toList r bs'
  | .ret=>retB T σ fn.results.toList r bs'
  |_=>False
 |none=>False
section
variable{T:Tab}{P:Program}{Φ:Fr}{σ:St}{a:Act}{w w':World}{G G':Gh}{K:VK}{o:Oper}{d:Nat}
theorem aH4:∀(b:List V) (t q:Nat),(kW b t)[q]? =(b[q]?).map λy=>cond (linear y) (.arr (t+q) 0) y:=by
 intro b
 induction b with
 |nil=>intro t q;simp[kW]
 |cons y r c=>
  intro t q;have e:kW (y::r) t=cond (linear y) (.arr t 0) y::kW r (t+1):=rfl;grind
theorem aR6:∀(b:List V) (t:Nat),(kW b t).length=b.length:=by
 intro b
 induction b with
 |nil=>intro t;rfl
 |cons y r c=>intro t;exact Ry Nat.succ (c (t+1))
theorem bI8:∀(bs:List (List V)) (j s:Nat),bB3 bs j s=if 100000+j<=s then(bs[s- (100000+j)]?).map λb=>kW b (100000*(s-100000+1))else none:=by
 intro bs
 induction bs with
 |nil=>intro j s;show none=_;split<;>simp
 |cons b r g=>
  intro j s;show cond (Nat.beq s (100000+j)) (some (kW b (100000*(j+1)))) (bB3 r (j+1) s)=_;by_cases e:s=100000+j
  ·simp_all
  ·have f:Nat.beq s (100000+j)=false:=by rw[<-TU,Tv];exact e
   rw[f,SX,g];by_cases c:100000+(j+1)<=s
   ·rw[QO c,QO Aa]
    rw[show s- (100000+j)=(s- (100000+(j+1)))+1 from Aa,RZ]
   ·rw[Q5 c,Q5 Aa]
theorem cC7{bs:List (List V)}(y:∀b∈bs,b.length<100000):∀ {j s:Nat} {en:AE},vT bs j s=some en->∃(i q:Nat) (b:List V),bs[i]? =some b/\s=100000*(j+i+1)+q/\q<b.length/\(b[q]? =some (.own en.ty en.l)/\en=⟨0, .own,en.ty,en.l⟩\/b[q]? =some (.ap en.ty en.l)/\en=⟨0, .ap,en.ty,en.l⟩):=by
 induction bs with
 |nil=>intro j s en h;cases h
 |cons b r A=>
  intro j s en h;have g:(match jK b (100000*(j+1)) s with|some en=>some en|none=>vT r (j+1) s)=some en:=h
  split at g
  ·rename_i n c
   cases g;rw[gY]at c;split at c
   ·rename_i z
    split at c
    ·rename_i e l f
     cases c;exact⟨0,s-100000*(j+1),b,rfl,Aa,(QR.1 f).1, .inl ⟨f,rfl⟩⟩
    ·rename_i e l f
     cases c;exact⟨0,s-100000*(j+1),b,rfl,Aa,(QR.1 f).1, .inr ⟨f,rfl⟩⟩
    ·cases c
   ·cases c
  ·obtain⟨i,q,m,t,u,v,x⟩:=A (λb k=>y b (by simp[k])) g
   exact⟨i+1,q,m,t,by rw[u];omega,v,x⟩
theorem cU9{bs:List (List V)}:∀ {j i q:Nat} {b:List V} {y:V},bs[i]? =some b->b[q]? =some y->linear y=true->∃en,vT bs j (100000*(j+i+1)+q)=some en:=by
 induction bs with
 |nil=>intro j i q b y h;simp at h
 |cons c r k=>
  intro j i q b y hb e g;show∃en,(match jK c (100000*(j+1)) (100000*(j+i+1)+q)with|some en=>some en|none=>vT r (j+1) (100000*(j+i+1)+q))=some en
  cases f:jK c (100000*(j+1)) (100000*(j+i+1)+q)with
  |some en=>exact⟨en,rfl⟩
  |none=>
   simp only
   cases i with
   |zero=>
    simp at hb;subst hb;rw[gY,QO Aa,show 100000*(j+0+1)+q-100000*(j+1)=q from Aa,e]at f;cases y<;>simp_all [linear]
   |succ i=>
    have:=k (j:=j+1) (i:=i) (q:=q) FM e g;grind
theorem bR0:∀(bs:List (List V)) (j i:Nat),(iP bs j)[i]? =if i<bs.length then some (100000+(j+i))else none:=by
 intro bs
 induction bs with
 |nil=>intro j i;simp[iP]
 |cons b r c=>
  intro j i;have e:iP (b::r) j=(100000+j)::iP r (j+1):=rfl;grind
theorem cD7(bs:List (List V)):∀j,(iP bs j).length=bs.length:=by
 induction bs with
 |nil=>intro j;rfl
 |cons b r c=>intro j;exact Ry Nat.succ (c (j+1))
theorem cT3{bx:Nat->Option (List V)}{b:Grp}{is:List Nat}(h:aT2 bx b is=true):(ownG b).Nodup/\(∀k∈ownG b,k∉mF b)/\∀i∈is,∃cs,bx i=some cs:=by
 unfold aT2 at h;simp only[Ri]at h;obtain⟨⟨c,f⟩,e⟩:=h;refine⟨uU.1 c,λk g j=>?_,λi hi=>?_⟩
 ·grind [dY,pM]
 ·have:=dY.1 e i hi
  unfold isS at this;grind
set_option maxHeartbeats 1600000 in
theorem dR3(inv:Inv T Φ σ a w G){xs ys:List V}{bs:List (List V)}{gs:Grp}(z:gs=(xs,ys)::eU σ.bx bs (iP bs 0))(m:xM T σ.ar (iP bs 0) gs)(J:aT2 σ.bx gs (iP bs 0)=true)(vs:List Value)(aa:∀(i:Nat) v x,vs[i]? =some v->xs[i]? =some x->Rv w G v x/\x.ok σ.hasB σ.hasA):
 ∃Gc:Gh,(∀(j:Nat) v y,vs[j]? =some v->ys[j]? =some y->RbB T w Gc bs.length j v y)/\BxOk T w Gc bs/\Gc.β=G.β/\(∀b,G.O b= .fz->Gc.O b= .fz)/\
  (∀b,Gc.O b≠ .ext->(G.O b= .fz/\Gc.O b= .fz)\/(∃k,G.O b= .ar k)\/(∃i,i<bs.length/\b=G.β (100000+i)/\Gc.O b= .bx (100000+i)))/\xs.length=ys.length:=by
 obtain⟨X,E,B⟩:=cT3 J;have A:(iP bs 0).length=bs.length:=cD7 bs 0;have f:∀(j:Nat),j<bs.length->(iP bs 0)[j]? =some (100000+j):=λj H=>by rw[bR0,QO H,Tm]
 have U:gs[0]? =some (xs,ys):=by rw[z];rfl
 have W:∀(j:Nat) b,bs[j]? =some b->gs[j+1]? =some ((σ.bx (100000+j)).getD [],b):=by
  intro j b Q;rw[z,RZ];exact(aR3 A j _).2 ⟨_,b,f j (QR.1 Q).1,Q,rfl⟩
 have n:∀(γ:Nat) (g:List V×List V),gs[γ]? =some g->g.1.length=g.2.length/\∀(q:Nat) x y,g.1[q]? =some x->g.2[q]? =some y->aP8 T σ.ar (iP bs 0) x y:=λγ g hg=>aB1 (aJ8 m γ g hg);generalize hok:ownG gs=ok at*;generalize Z:mF gs=S at*
 let r:Nat->Nat:=λk=> @dite _ (∃t,∃γ q,t=100000*γ+q/\PosG gs γ q k) (Classical.propDecidable _) (λh=>h.choose) (λ_=>0)
 have hpos:∀ {γ q k},PosG gs γ q k->r k=100000*γ+q:=by
  intro γ q k hp;exact PV
 let Gc:Gh:={G with O:=λb=>match G.O b with| .fz=> .fz| .ar k=>if k∈S then .fz else if k∈ok then .ar (r k)else .ext| .bx i=>if(100000<=i/\i<100000+bs.length)/\b=G.β i then .bx i else .ext| .ext=> .ext}
 have e:∀b,G.O b= .fz->Gc.O b= .fz:=λb hb=>BX
 have s:∀b i,G.O b= .bx i->(100000<=i/\i<100000+bs.length)/\b=G.β i->Gc.O b= .bx i:=λb i hb h=>by
  simp only[Gc];rw[hb];simp only;rw[QO h]
 have N:∀b k,G.O b= .ar k->k∈S->Gc.O b= .fz:=λb k hb hk=>Ea
 have c_ok:∀b k,G.O b= .ar k->k∈ok->Gc.O b= .ar (r k):=λb k hb hk=>by
  grind
 have I:Keep w w G Gc:=⟨e,λ_ _=>rfl⟩
 have D:∀b i,nth (iP bs 0) (b-100000)=some i->100000<=b->Gc.β b=G.β i:=by
  grind [uN,bR0,UN]
 have u:∀(γ q:Nat) (g:List V×List V) (v:Value) (x y:V),gs[γ]? =some g->g.1[q]? =some x->g.2[q]? =some y->Rv w G v x->x.ok σ.hasB σ.hasA->RbB T w Gc bs.length (100000*γ+q) v y:=by
  intro γ q g v x y hg hx hy hv L;rw[<-A];refine aW7 inv I D ((n γ g hg).2 q x y hx hy) hv L (λhl k hk b hb=>?_) (λhl k hk b hb=>?_)
  ·grind [aS8,nP]
  ·exact MG
 refine⟨Gc,?_,?_,rfl,e,?_,(n 0 _ U).1⟩
 ·grind
 ·intro j b hb
  have H:=(QR.1 hb).1;obtain⟨cs,l⟩:=B (100000+j) (QT (f j H));obtain⟨c,t,q2,M,q4⟩:=inv.box _ cs l;have hg:=W j b hb
  rw[l]at hg;simp only[Um]at hg;have F:=(n _ _ hg).1;refine⟨s _ _ q4 ⟨⟨Aa,Aa⟩,rfl⟩,c,t,q2,?_,?_⟩
  ·have:=M.len
   simp only[RV]at this;rw[this];exact F
  ·intro q v y hv hy
   have Y:q<cs.length:=by
    grind
   have hx:cs[q]? =some cs[q] :=QS Y;have C:c.toList[q]? =some v:=Bl
   exact⟨M.one v (QT C),u (j+1) q _ v _ y hg hx hy (M.rel q v _ C hx) (aH.1 (inv.wfB _ cs l) _ (QT hx))⟩
 ·intro b hb
  cases R:G.O b with
  |ext=>exfalso;apply hb;simp only[Gc];rw[R]
  |fz=>exact .inl ⟨rfl,e b R⟩
  |ar k=>exact .inr (.inl ⟨k,rfl⟩)
  |bx i=>
   by_cases hi:(100000<=i/\i<100000+bs.length)/\b=G.β i
   ·refine .inr (.inr ⟨i-100000,Aa,?_,?_⟩)
    ·grind
    ·grind
   ·grind
set_option maxHeartbeats 3200000 in
theorem dP3(hT:bP T P)(hm:P.follows .mixedOrders=true){f:FuncId}{fn:Func}(hf:P.funcs[f]? =some fn)(hc:callable P f=true){ys:List V}{bs:List (List V)}{r:V}{z:List (List V)}(hn:ys.length<=fn.ntmps)(a7:fn.ntmps<100000)(h8:bs.length<=8)(ac:∀b∈bs,b.length<100000)(hlens:z.map List.length=bs.map List.length)(h:jR T P fn ys bs r z):aU2 T P f ys bs r z:=by
 refine⟨hc,hlens,?_⟩;intro w G cs hcs an hbx ae hargs a2;have aw:z.length=bs.length:=Ec;unfold jR at h;split at h
 ·rename_i c Q
  let Φ:Fr:=⟨w,λb=>(∃j,G.O b= .ar j)\/(∃i,G.O b= .bx i),λb=>G.O b= .fz,fn.ntmps,λ_=>none,λi=>if 100000<=i/\i<100000+bs.length then some (G.β i)else none,[],λ_=>none⟩
  let m:Nat->Nat->Value:=λj q=>match w.heap[G.β (100000+j)]? with|some (.cells c _ _)=>c.getD q undef|_=>undef
  let G0:Gh:={G with av:=λk _=>if k<100000 then cs.getD k undef else m (k/100000-1) (k% 100000)}
  have af:∀k,k<100000->G0.av k 0=cs.getD k undef:=λk hk=>by simp only[G0];rw[QO hk]
  have ag:∀j q,q<100000->G0.av (100000*(j+1)+q) 0=m j q:=λj q hq=>by
   simp only[G0];rw[Q5 Aa];rw[show(100000*(j+1)+q)/100000-1=j from Aa,show(100000*(j+1)+q)% 100000=q from Aa]
  have E:Keep w w G G0:=⟨λ_ h=>h,λ_ _=>rfl⟩;have a9:ys.length<100000:=Aa
  have ak:∀(j:Nat) y,ys[j]? =some y->RbB T w G bs.length j (cs.getD j undef) y:=by
   intro j y hy;exact PE
  have a3:∀ {j u e l},gJ T w G j u e l->u.oneCell'=true:=by
   intro j u e l h;exact Pg
  have a1:∀ {u l},Rv w G u (.cap l)->u.oneCell'=true:=by
   intro u l h;exact P6
  have B:∀ {j v y},RbB T w G bs.length j v y->linear y=false->y.ok (λi=>100000<=i/\i<100000+bs.length) (λ_ _=>False)/\Rv w G0 v y:=by
   intro j v y hr H
   have:y.ok (λi=>100000<=i/\i<100000+bs.length) (λ_ _=>False)/\Rv w G v y:=by
    unfold RbB at hr;grind [linear]
   exact⟨this.1,this.2.keep E this.1 (λ_ _=>rfl) (λ_ _ h=>h.elim)⟩
  have au:∀ {j v y},RbB T w G bs.length j v y->linear y=true->v.oneCell'=true:=by
   grind [oW,RbB]
  have A:∀(j:Nat) b,bs[j]? =some b->G.O (G.β (100000+j))= .bx (100000+j)/\∃c t,w.heap[G.β (100000+j)]? =some (.cells c t (0,0))/\c.size=b.length/\
   ∀(q:Nat) y,b[q]? =some y->c[q]? =some (m j q)/\(m j q).oneCell'=true/\RbB T w G bs.length (100000*(j+1)+q) (m j q) y:=by
   intro j b Q;obtain⟨L,c,t,q2,I,X⟩:=ae j b Q;refine⟨L,c,t,q2,I,λq y hy=>?_⟩;have hq:q<c.size:=by rw[I];exact(QR.1 hy).1
   have e1:m j q=c[q] :=by simp only[m];rw[q2];simp[hq]
   grind
  have S:∀i n,bB3 bs 0 i=some n->∃j b,i=100000+j/\bs[j]? =some b/\n=kW b (100000*(j+1)):=by
   intro i n hi;rw[bI8]at hi;split at hi
   ·rename_i a6
    cases g:bs[i- (100000+0)]? with
    |none=>rw[g]at hi;cases hi
    |some b=>
     rw[g]at hi;simp only[SK,Sv]at hi;exact⟨i-100000,b,Aa,by simpa using g,hi.symm⟩
   ·cases hi
  have ah:∀j b,bs[j]? =some b->bB3 bs 0 (100000+j)=some (kW b (100000*(j+1))):=by
   intro j b g;rw[bI8,QO Aa,show 100000+j- (100000+0)=j from Aa,g];rfl
  have J:∀i,(100000<=i/\i<100000+bs.length)->(aG1 ys bs).hasB i:=by
   rintro i ⟨h1,h2⟩;have hj:i-100000<bs.length:=Aa;have:=ah (i-100000) bs[i-100000] (QS hj)
   rw[show 100000+(i-100000)=i from Aa]at this;exact⟨_,this⟩
  have aa:∀(s:Nat) y,ys[s]? =some y->linear y=true->(aG1 ys bs).hasA s 0:=by
   intro s y hy H
   have:∃en,jK ys 0 s=some en:=by
    rw[gY];simp only[RI,TY,Uj,hy];cases y<;>simp_all [linear]
   obtain⟨en,D⟩:=this;exact⟨en,by show(match jK ys 0 s with|some en=>some en|none=>vT bs 0 s)=_;rw[D],RI _⟩
  have ab:∀(j q:Nat) b y,bs[j]? =some b->b[q]? =some y->linear y=true->(aG1 ys bs).hasA (100000*(j+1)+q) 0:=by
   intro j q b y g hy H;obtain⟨en,D⟩:=cU9 (j:=0) g hy H;rw[Tm]at D
   have h0:jK ys 0 (100000*(j+1)+q)=none:=by
    rw[gY];grind
   exact⟨en,by show(match jK ys 0 _ with|some en=>some en|none=>vT bs 0 _)=_;rw[h0];exact D,RI _⟩
  have N:∀k en,(aG1 ys bs).ar k=some en->∃v y,RbB T w G bs.length k v y/\G0.av k 0=v/\((y= .own en.ty en.l/\en=⟨0, .own,en.ty,en.l⟩)\/(y= .ap en.ty en.l/\en=⟨0, .ap,en.ty,en.l⟩)):=by
   intro k en D;have U:(match jK ys 0 k with|some en=>some en|none=>vT bs 0 k)=some en:=D
   split at U
   ·rename_i a4 h0
    cases U;rw[gY]at h0;grind
   ·obtain⟨i,q,b,h1,h2,h3,Y⟩:=cC7 ac U
    rw[Tm]at h2;have hq:q<100000:=by have:=ac b (QT h1);omega
    obtain⟨_,c,t,_,_,ax⟩:=A i b h1;subst h2;rcases Y with⟨Y,h5⟩|⟨Y,h5⟩
    ·grind
    ·grind
  have inv:Inv T Φ (aG1 ys bs) {tmps:=cs++Array.replicate (fn.ntmps-cs.size) undef,defers:=[]} w G0:=by
   constructor
   ·rfl
   ·intro s v h;cases h
   ·grind
   ·intro s
    show Rv w G0 ((cs++Array.replicate (fn.ntmps-cs.size) undef).getD s undef) (pF ys 0 s);rw[lY];simp only[RI,TY,Uj];by_cases hs:s<cs.size
    ·have hv:(cs++Array.replicate (fn.ntmps-cs.size) undef).getD s undef=cs.getD s undef:=by
      simp[Uu hs]
     have hy:ys[s]? =some ys[s] :=QS Aa;rw[hv,hy];have hr:=ak s _ hy
     generalize ys[s] =y at*;simp only
     cases H:linear y with
     |false=>exact(B hr H).2
     |true=>
      have h1:=au hr H;have e:=af s Aa
      rw[<-e]at h1⊢;exact Rv.arr (w:=w) (G:=G0) s 0 h1
    ·exact Jd
   ·intro s
    show(pF ys 0 s).ok _ _;rw[lY];simp only[RI,TY,Uj]
    cases hy:ys[s]? with
    |none=>simp only[V.ok,V.okL]
    |some y=>
     simp only;have hr:=ak s y hy
     cases H:linear y with
     |false=>exact V.ok.imp J (λ_ _ h=>h.elim) _ (B hr H).1
     |true=>
      simp only[Td,V.ok];exact aa s y hy H
   ·intro i n hi
    obtain⟨j,b,rfl,g,rfl⟩:=S i n hi;obtain⟨L,c,t,q2,I,X⟩:=A j b g;refine⟨c,t,q2,⟨by rw[aR6];simpa using I,λv hv=>?_,λq v x hv R=>?_⟩,L⟩
    ·obtain⟨q,hq⟩:=Rx hv
     have az:q<b.length:=by rw[<-I];simpa using(QR.1 hq).1
     obtain⟨k1,k2,_⟩:=X q _ (QS az);grind
    ·rw[aH4]at R
     cases hy:b[q]? with
     |none=>rw[hy]at R;cases R
     |some y=>
      rw[hy]at R;simp only[SK,Sv]at R;obtain⟨k1,k2,k3⟩:=X q y hy;have ao:c[q]? =some v:=Bl;rw[k1]at ao;cases ao
      have hq:q<100000:=by
       have h1:=ac b (QT g);grind
      cases H:linear y with
      |false=>rw[H]at R;simp only[SX]at R;subst R;exact(B k3 H).2
      |true=>
       rw[H]at R;simp only[Td]at R;subst R;have e:=ag j q hq;rw[<-e]at k2⊢;exact Rv.arr (w:=w) (G:=G0) _ 0 k2
   ·intro i n hi
    obtain⟨j,b,rfl,g,rfl⟩:=S i n hi;obtain⟨L,c,t,q2,I,X⟩:=A j b g;refine aH.2 λx R=>?_;obtain⟨q,hq⟩:=Rx R;rw[aH4]at hq
    cases hy:b[q]? with
    |none=>rw[hy]at hq;cases hq
    |some y=>
     rw[hy]at hq;simp only[SK,Sv]at hq;obtain⟨k1,k2,k3⟩:=X q y hy
     cases H:linear y with
     |false=>rw[H]at hq;simp only[SX]at hq;subst hq;exact V.ok.imp J (λ_ _ h=>h.elim) _ (B k3 H).1
     |true=>rw[H]at hq;simp only[Td]at hq;subst hq;simp only[V.ok];exact ab j q b y g hy H
   ·intro k en D
    obtain⟨v,y,h1,h2,h3⟩:=N k en D;have hO:∀b,G.O b= .ar k->G0.O b= .ar k/\w.heap[b]? =w.heap[b]? :=λb Q=>⟨Q,rfl⟩;rcases h3 with⟨rfl,Y⟩|⟨rfl,Y⟩
    ·obtain⟨L,q2,I⟩:=h1
     rw[Y];unfold gW;refine⟨L,?_⟩;show gJ T w G0 k (G0.av k 0) _ _;rw[h2];exact I.keep E q2 hO
    ·obtain⟨L,q2,I⟩:=h1
     rw[Y];unfold gW;refine⟨L,?_⟩;show gJ T w G0 k (G0.av k 0) _ _\/(Rv w G0 (G0.av k 0) _/\_);rw[h2];rcases I with q|q
     ·exact .inl (q.keep E q2 hO)
     ·exact .inr ⟨q.1.aW E Fe,q.2⟩
   ·intro k en D
    obtain⟨v,y,h1,h2,h3⟩:=N k en D;rcases h3 with⟨rfl,Y⟩|⟨rfl,Y⟩
    ·exact h1.2.1
    ·exact h1.2.1
   ·exact an
   ·intro b i g;exact .inr (.inr ⟨i,g⟩)
   ·intro b k g;exact .inr (.inl ⟨k,g⟩)
   ·intro b g;exact .inl g
   ·intro b g;exact g
   ·intro b _ _;rfl
   ·exact QV _
   ·rfl
   ·rfl
   ·rfl
   ·intro j v h;cases h
   ·grind
   ·intro i b h'
    have Z:(if 100000<=i/\i<100000+bs.length then some (G.β i)else none)=some b:=h'
    split at Z
    ·rename_i hi
     cases Z;exact⟨rfl,⟨hi.1,Aa⟩,J i hi⟩
    ·cases Z
  refine wM hT hm hf Q (Φ:=Φ) rfl rfl rfl inv h ?_
  have fin:∀(e:Exit) (σ:St) (a':Act) (w':World) (G':Gh),retB T σ fn.results.toList r z->Inv T Φ σ a' w' G'->∃v,(results fn a'.tmps).run P w'= .ok v w'/\∃v0 C,(Ending.returned v= .returned v0)/\RrB T w' C bs.length v0 r/\BxOk T w' C z/\(∀i,i<bs.length->C.β (100000+i)=G.β (100000+i))/\
   (∀b,G.O b= .fz->C.O b= .fz)/\(∀b,C.O b≠ .ext->b<w'.heap.size)/\
   (∀b,C.O b≠ .ext->(G.O b= .fz/\C.O b= .fz)\/w.heap.size<=b\/(∃j,G.O b= .ar j)\/(∃i,G.O b= .bx i/\C.O b= .bx i))/\
   (∀b,b<w.heap.size->(∀j,G.O b≠ .ar j)->(∀i,G.O b≠ .bx i)->w'.heap[b]? =w.heap[b]?)/\
   w.heap.size<=w'.heap.size/\w'.os=w.os/\w'.tape=w.tape/\w'.output=w.output:=by
   intro e σ a' w' G' W inv';replace W:=W.out;obtain⟨xs,vs,hk,ai,a5,a0,am⟩:=aQ5 hT inv' _ _ W;have al:=aD1 am;refine⟨aI1 vs,al,aI1 vs,?_⟩;have aq:∀i,i<bs.length->G'.β (100000+i)=G.β (100000+i):=λi hi=>(inv'.argb (100000+i) (G.β (100000+i)) Bv).1
   have M:∀(F:List V),xM T σ.ar (iP z 0) ((xs,F)::eU σ.bx z (iP z 0))->aT2 σ.bx ((xs,F)::eU σ.bx z (iP z 0)) (iP z 0)=true->∃C:Gh,(∀(j:Nat) v y,vs[j]? =some v->F[j]? =some y->RbB T w' C bs.length j v y)/\xs.length=F.length/\BxOk T w' C z/\(∀i,i<bs.length->C.β (100000+i)=G.β (100000+i))/\
    (∀b,G.O b= .fz->C.O b= .fz)/\(∀b,C.O b≠ .ext->b<w'.heap.size)/\
    (∀b,C.O b≠ .ext->(G.O b= .fz/\C.O b= .fz)\/w.heap.size<=b\/(∃j,G.O b= .ar j)\/(∃i,G.O b= .bx i/\C.O b= .bx i)):=by
    intro F h1 h2;obtain⟨Gc,L,q2,I,X,q5,q6⟩:=dR3 inv' rfl h1 h2 vs a0;rw[aw]at L;refine⟨Gc,L,q6,q2,λi hi=>by rw[I];exact aq i hi,λb Q=>X b (inv'.F0 b Q),λb Q=>inv'.tag b ?_,λb Q=>?_⟩
    ·rcases q5 b Q with⟨h,_⟩|⟨k,h⟩|⟨i,hi,h,_⟩
     ·rw[h];simp
     ·rw[h];simp
     ·obtain⟨_,_,cs0,hcs0⟩:=inv'.argb (100000+i) (G.β (100000+i)) Bv
      obtain⟨_,_,_,_,hO⟩:=inv'.box _ cs0 hcs0;rw[h,hO];simp
    ·rcases q5 b Q with⟨h,h'⟩|⟨k,h⟩|⟨i,hi,h,h'⟩
     ·rcases inv'.fzm b h with h2|h2
      ·exact .inl ⟨h2,h'⟩
      ·rcases h2 with h2|h2|⟨i,h2⟩
       ·exact .inr (.inl h2)
       ·exact .inr (.inr (.inl h2))
       ·exact Kw
     ·rcases inv'.mineA b k h with h2|h2|⟨i,h2⟩
      ·exact .inr (.inl h2)
      ·exact .inr (.inr (.inl h2))
      ·exact Kw
     ·rw[aq i Aa]at h
      refine .inr (.inr (.inr ⟨100000+i,?_,h'⟩));rw[h];have ay:i<bs.length:=Aa;exact(A i bs[i] (QS ay)).1
   have frame:(∀b,b<w.heap.size->(∀j,G.O b≠ .ar j)->(∀i,G.O b≠ .bx i)->w'.heap[b]? =w.heap[b]?)/\w.heap.size<=w'.heap.size/\w'.os=w.os/\w'.tape=w.tape/\w'.output=w.output:=
    ⟨λb Q hj hi=>inv'.frame b Q (by
     rintro(⟨j,h⟩|⟨i,h⟩)
     ·exact hj j h
     ·exact hi i h),inv'.size,inv'.os,inv'.tape,inv'.output⟩
   split at hk
   ·rename_i x
    obtain⟨g1,g2,g3⟩:=hk;obtain⟨C,L,_,q2,I,X,q5,q6⟩:=M [r] g1 g2;obtain⟨v,rfl⟩:∃v,vs=[v] :=UC.1 ai;refine⟨C,rfl,?_,q2,I,X,q5,q6,frame⟩;have:=L 0 v r rfl rfl;unfold RrB;split
    ·exact absurd rfl (g3 _)
    ·exact this
   ·rename_i a8
    obtain⟨F,rfl,g1,g2⟩:=hk;obtain⟨C,L,aj,q2,I,X,q5,q6⟩:=M F g1 g2;refine⟨C,rfl,?_,q2,I,X,q5,q6,frame⟩;show∃us:Array Value,aI1 vs= .tuple us/\us.size=F.length/\∀(j:Nat) u y,us[j]? =some u->F[j]? =some y->RbB T w' C bs.length j u y;refine⟨vs.toArray,?_,by simp[ai,aj],λj u y hu hy=>L j u y Bj hy⟩
    exact OC
  intro e σ a' w' G' hq inv';exact NM
 ·exact h.elim
end
def dU6(u' u:Value):Prop:=
 match u with
 | .int k n=>match u' with| .int k' n'=>k'=k/\n'=n|_=>False
 | .bool b=>match u' with| .bool b'=>b'=b|_=>False
 |u=>u'=u
def wk1(ar r:Nat->Option AE)(x y:V):Prop:=
 match y with
 | .bot=>True
 | .lit u=>match x with| .lit u'=>dU6 u' u|_=>False
 | .sl l=>match x with
   | .sl l'=>l'=l
   | .cap l'=>l'=l
   | .lit (.slice none 0 0)=>l=[]
   | .arr k g=>match ar k with
     |some en=>match en.kind with
      | .frz=>en.gen=g/\en.l=l
      |_=>False
     |none=>False
   |_=>False
 | .arr k g=>match x with
   | .arr k' g'=>k'=k/\g'=g
   | .lit (.slice none 0 0)=>match ar k with
     |none=>match r k with
      |some en=>en.gen=g
      |none=>False
     |some _=>False
   |_=>False
 | .box i o=>match x with| .box i' o'=>i'=i/\o'=o|_=>False
 | .cap l=>match x with| .cap l'=>l'=l| .lit (.slice none 0 0)=>l=[] |_=>False
 | .fp l=>match x with| .fp l'=>l'=l|_=>False
 | .fn g l=>match x with| .fn g' l'=>g'=g/\l'=l|_=>False
 | .ae k g z i o=>match x with| .ae k' g' z' i' o'=>k'=k/\g'=g/\z'=z/\i'=i/\o'=o|_=>False
 |_=>False
def wkL(ar r:Nat->Option AE)(ys:List V):List V->Prop:=
 List.rec (motive:=λ_=>List V->Prop) (λxs=>match xs with| [] =>True|_::_=>False)
  (λy _ ih xs=>match xs with|x::xr=>wk1 ar r x y/\ih xr| [] =>False) ys
def wkV(ar r:Nat->Option AE)(x y:V):Prop:=
 match y with
 | .agg ys=>match x with| .agg xs=>wkL ar r ys xs|_=>False
 |y=>wk1 ar r x y
def bX7(a b:AK):Prop:=
 match b with
 | .own=>match a with| .own=>True|_=>False
 | .ap=>match a with| .own=>True| .ap=>True|_=>False
 | .frz=>match a with| .frz=>True|_=>False
 | .dead=>match a with| .dead=>True|_=>False
def wkAE(T:Tab)(o:Option AE)(en:AE):Prop:=
 match o with
 |some en0=>en0.gen=en.gen/\bX7 en0.kind en.kind/\en0.ty=en.ty/\en0.l=en.l
 |none=>bX7 .own en.kind/\en.l=[]/\Nat.blt en.ty (T.n en.ty)=true
def wfC1(b:Nat->Option (List V))(x:V):Prop:=
 match x with
 | .box i _=>match b i with|some _=>True|none=>False
 | .fp _=>True
 | .lit _=>True
 | .own _ [] =>True
 | .ap _ _=>True
 | .sl _=>True
 |_=>False
def wfC(b:Nat->Option (List V))(l:List V):Prop:=List.rec (motive:=λ_=>Prop) True (λx _ ih=>wfC1 b x/\ih) l
def wf1(b:Nat->Option (List V))(r:Nat->Option AE)(x:V):Prop:=
 match x with
 | .box i _=>match b i with|some _=>True|none=>False
 | .arr k g=>match r k with|some en=>g<=en.gen|none=>False
 | .ae k g _ _ _=>match r k with|some en=>g<=en.gen|none=>False
 | .fn _ l=>wfC b l
 |_=>True
def wfL(b:Nat->Option (List V))(r:Nat->Option AE)(l:List V):Prop:=List.rec (motive:=λ_=>Prop) True (λx _ ih=>wf1 b r x/\ih) l
def wfV(b:Nat->Option (List V))(r:Nat->Option AE)(x:V):Prop:=
 match x with
 | .agg cs=>wfL b r cs
 |x=>wf1 b r x
def wkE(σ:St)(b:Nat->Option (List V))(r:Nat->Option AE)(e:List (Nat×V)):Prop:=
 List.rec (motive:=λ_=>Prop) True (λp _ ih=>(wkV σ.ar r (σ.env p.1) p.2/\wfV b r p.2)/\ih) e
def wkB(σ:St)(b:Nat->Option (List V))(r:Nat->Option AE)(l:List (Nat×List V)):Prop:=
 List.rec (motive:=λ_=>Prop) True (λp _ ih=>(match σ.bx p.1 with|some cs=>wkL σ.ar r p.2 cs/\wfL b r p.2|none=>False)/\ih) l
def wkA(T:Tab)(σ:St)(l:List (Nat×AE)):Prop:=
 List.rec (motive:=λ_=>Prop) True (λp _ ih=>wkAE T (σ.ar p.1) p.2/\ih) l
theorem eJ6{c u:Value}(h:dU6 c u):c=u:=by
 unfold dU6 at h;grind
section
variable{T:Tab}{Φ:Fr}{σ:St}{a:Act}{w:World}{G:Gh}{b:Nat->Option (List V)}{r:Nat->Option AE}
def xI(σ:St)(G:Gh):Gh:={G with av:=λk g=>match σ.ar k with|none=> .slice none 0 0|some _=>G.av k g}
theorem bD1(σ:St)(w:World)(G:Gh):Keep w w G (xI σ G):=⟨λ_ h=>h,λ_ _=>rfl⟩
theorem eB6{k g:Nat}(h:σ.hasA k g):(xI σ G).av k g=G.av k g:=by
 obtain⟨en,h,_⟩:=h;simp[xI,h]
theorem eX8{τ:St}{p:Nat->Prop}{q:Nat->Nat->Prop}{l:List V}:wfC τ.bx l->V.okL p q l->V.okL τ.hasB τ.hasA l:=by
 induction l with
 |nil=>intro _ _;simp only[V.okL]
 |cons x r i=>
  intro h c;obtain⟨e,g⟩:wfC1 τ.bx x/\wfC τ.bx r:=h;simp only[V.okL]at c⊢;refine⟨?_,i g c.2⟩;have d:=c.1;unfold wfC1 at e;split at e
  ·split at e
   ·rename_i cs f;simp only[V.ok];exact⟨cs,f⟩
   ·exact e.elim
  ·simp only[V.ok]at d⊢;exact d
  ·simp only[V.ok]
  ·simp only[V.ok,V.okL]
  ·simp only[V.ok]at d⊢;exact d
  ·simp only[V.ok]at d⊢;exact d
  ·exact e.elim
theorem aG3(inv:Inv T Φ σ a w G){v:Value}{x y:V}(m:Rv w G v x)(c:x.ok σ.hasB σ.hasA)(h:wk1 σ.ar r x y)(hw:wf1 b r y)(τ:St)(u:τ.bx=b)(A:τ.ar=r):
 Rv w (xI σ G) v y/\y.ok τ.hasB τ.hasA:=by
 have f:Rv w (xI σ G) v x:=m.keep (bD1 σ w G) c (λ_ _=>rfl) (λk g h=>eB6 h);subst u A;unfold wk1 at h;split at h
 ·exact⟨.bot v,BL⟩
 ·grind [eJ6,V.ok]
 ·split at h
  ·grind [V.ok]
  ·subst h;exact⟨f.wK,by simp only[V.ok]at c⊢;exact c⟩
  ·subst h
   have:=m.bH;subst this;exact⟨.slN,E5⟩
  ·split at h
   ·rename_i k g _ en hen
    split at h
    ·rename_i s
     obtain⟨rfl,rfl⟩:=h;have n:=inv.arr k en hen;unfold gW at n;rw[s]at n;have hp:=inv.wfA k en hen
     have t:(V.sl en.l).pure:=Az;have hv:=m.oQ
     rw[hv];exact⟨(n:Rv w G _ _).aW (bD1 σ w G) t,by simp only[V.ok];exact hp⟩
    ·exact h.elim
   ·exact h.elim
  ·exact h.elim
 ·rename_i k g
  have j:τ.hasA k g:=Lp;split at h
  ·grind [V.ok]
  ·split at h
   ·rename_i d
    split at h
    ·have hv:=m.bH
     subst hv;have e:(xI σ G).av k g= .slice none 0 0:=by simp[xI,d]
     rw[<-e];exact⟨.arr k g (by rw[e];rfl),by simp only[V.ok];exact j⟩
    ·exact h.elim
   ·exact h.elim
  ·exact h.elim
 ·split at h
  ·obtain⟨rfl,rfl⟩:=h
   refine⟨f,?_⟩;unfold wf1 at hw;simp only at hw;split at hw
   ·rename_i cs q;simp only[V.ok];exact⟨cs,q⟩
   ·exact hw.elim
  ·exact h.elim
 ·split at h
  ·grind [V.ok]
  ·subst h
   have:=m.bH;subst this;exact⟨.capN,E5⟩
  ·exact h.elim
 ·grind [V.ok]
 ·split at h
  ·obtain⟨rfl,rfl⟩:=h
   refine⟨f,?_⟩;simp only[V.ok]at c⊢;exact eX8 (τ:=τ) hw c
  ·exact h.elim
 ·rename_i k g z i o
  have j:τ.hasA k g:=Lp;grind [V.ok]
 ·exact h.elim
theorem bL3{ar:Nat->Option AE}{ys:List V}:∀ {xs:List V},wkL ar r ys xs->wfL b r ys->xs.length=ys.length/\∀(i:Nat) x y,xs[i]? =some x->ys[i]? =some y->wk1 ar r x y/\wf1 b r y:=by
 induction ys with
 |nil=>
  intro xs h _
  cases xs with
  |nil=>exact⟨rfl,λi x y hx=>Ir⟩
  |cons x xr=>exact(h:False).elim
 |cons y c f=>
  intro xs h e
  cases xs with
  |nil=>exact(h:False).elim
  |cons x xr=>
   obtain⟨j,d⟩:=(h:wk1 ar r x y/\wkL ar r c xr);obtain⟨m,g⟩:=(e:wf1 b r y/\wfL b r c);obtain⟨k,l⟩:=f d g;grind
theorem bT8(inv:Inv T Φ σ a w G){v:Value}{x y:V}(l:Rv w G v x)(e:x.ok σ.hasB σ.hasA)(h:wkV σ.ar r x y)(k:wfV b r y)(τ:St)(m:τ.bx=b)(n:τ.ar=r):
 Rv w (xI σ G) v y/\y.ok τ.hasB τ.hasA:=by
 unfold wkV at h;split at h
 ·rename_i ys
  split at h
  ·rename_i xs
   obtain⟨q1,o⟩:=bL3 h k;obtain⟨cs,rfl,g,j,hrel⟩:=l.zV;simp only[V.ok]at e
   have d:∀(i:Nat) c y,cs[i]? =some c->ys[i]? =some y->Rv w (xI σ G) c y/\y.ok τ.hasB τ.hasA:=by
    intro i c y f hy;have hi:i<xs.length:=Fh;grind [aG3,aH,TA]
   refine⟨.agg cs ys Aa j λi c y f hy=>(d i c y f hy).1,?_⟩;simp only[V.ok];rw[aH];intro y hy;obtain⟨i,hi⟩:=Rx hy;have hlt:i<cs.size:=by rw[g,q1];exact(QR.1 hi).1
   exact(d i cs[i] y I7 hi).2
  ·exact h.elim
 ·grind [aG3,wfV]
theorem dT6{d:Type}{c:d}{l:List (Nat×d)}(s:Nat):ofL c l s=c\/∃p∈l,p.1=s/\ofL c l s=p.2:=by
 induction l with
 |nil=>exact .inl rfl
 |cons p q f=>
  have e:ofL c (p::q) s=cond (Nat.beq s p.1) p.2 (ofL c q s):=rfl;grind [Nat.beq,SG]
theorem aF5{c:Type}{l:List (Nat×c)}{s:Nat}{x:c}(h:ofO l s=some x):∃p∈l,p.1=s/\p.2=x:=by
 induction l with
 |nil=>cases h
 |cons p q e=>
  have d:ofO (p::q) s=cond (Nat.beq s p.1) (some p.2) (ofO q s):=rfl;grind [Nat.beq,SG]
theorem cP0{e:List (Nat×V)}(h:wkE σ b r e):∀p∈e,wkV σ.ar r (σ.env p.1) p.2/\wfV b r p.2:=by
 induction e with
 |nil=>intro p hp;cases hp
 |cons q l ih=>
  obtain⟨h1,h2⟩:=(h:(wkV σ.ar r (σ.env q.1) q.2/\wfV b r q.2)/\wkE σ b r l);intro p hp;exact Ql
theorem cF4{l:List (Nat×List V)}(h:wkB σ b r l):∀p∈l,∃cs,σ.bx p.1=some cs/\wkL σ.ar r p.2 cs/\wfL b r p.2:=by
 induction l with
 |nil=>intro p c;cases c
 |cons q l e=>
  obtain⟨f,d⟩:=(h:(match σ.bx q.1 with|some cs=>wkL σ.ar r q.2 cs/\wfL b r q.2|none=>False)/\wkB σ b r l)
  intro p c;rcases Rh.1 c with rfl|c
  ·grind
  ·exact e d p c
theorem cO0{l:List (Nat×AE)}(h:wkA T σ l):∀p∈l,wkAE T (σ.ar p.1) p.2:=by
 induction l with
 |nil=>intro p hp;cases hp
 |cons q l ih=>
  obtain⟨h1,h2⟩:=(h:wkAE T (σ.ar q.1) q.2/\wkA T σ l);intro p hp;exact Ql
theorem cR3(inv:Inv T Φ σ a w G){k:Nat}{c en:AE}(d:σ.ar k=some c)(e:c.gen=en.gen)(f:bX7 c.kind en.kind)(g:c.ty=en.ty)(h:c.l=en.l):gW T w G k en:=by
 have i:=inv.arr k c d;grind [bX7,gW]
def has8(o p:Option AE):Prop:=match o with|none=>True|some _=>(match p with|some _=>True|none=>False)
def aN5(o p:Option (List V)):Prop:=match o with|none=>True|some _=>(match p with|some _=>True|none=>False)
def wk8b(ar r:Nat->Option (List V)):Prop:=aN5 (ar 100000) (r 100000)/\aN5 (ar 100001) (r 100001)/\aN5 (ar 100002) (r 100002)/\aN5 (ar 100003) (r 100003)/\aN5 (ar 100004) (r 100004)/\aN5 (ar 100005) (r 100005)/\aN5 (ar 100006) (r 100006)/\aN5 (ar 100007) (r 100007)
theorem dS5{ar r:Nat->Option (List V)}(h:wk8b ar r){j:Nat}(q:100000<=j/\j<100008){en:List V}(n:ar j=some en):∃c,r j=some c:=by
 have key:∀ {o p:Option (List V)},aN5 o p->o=some en->∃c,p=some c:=by
  intro o p h ho;exact Qc
 obtain⟨d,e,f,g,i,k,l,m⟩:=h;grind
def wk8(ar r:Nat->Option AE):Prop:=has8 (ar 0) (r 0)/\has8 (ar 1) (r 1)/\has8 (ar 2) (r 2)/\has8 (ar 3) (r 3)/\has8 (ar 4) (r 4)/\has8 (ar 5) (r 5)/\has8 (ar 6) (r 6)/\has8 (ar 7) (r 7)
theorem dT9{ar r:Nat->Option AE}(h:wk8 ar r){j:Nat}(q:j<8){en:AE}(c:ar j=some en):∃d,r j=some d:=by
 have key:∀ {o p:Option AE},has8 o p->o=some en->∃d,p=some d:=by
  intro o p h ho;exact Qc
 obtain⟨e,f,g,i,k,l,m,n⟩:=h
 match j,q with
 |0,_=>exact key e c
 |1,_=>exact key f c
 |2,_=>exact key g c
 |3,_=>exact key i c
 |4,_=>exact key k c
 |5,_=>exact key l c
 |6,_=>exact key m c
 |7,_=>exact key n c
theorem dV{e:List (Nat×V)}{o:List (Nat×List V)}{q:List (Nat×AE)}(P:wk8 σ.ar (ofO q)/\wk8b σ.bx (ofO o))(Q:wkA T σ q)(R:wkB σ (ofO o) (ofO q) o)(S:wkE σ (ofO o) (ofO q) e):Le T σ (mkSt e o q):=by
 unfold Le;intro Φ a w G inv;have B:∀s,(mkSt e o q).env s= .bot\/∃p∈e,p.1=s/\(mkSt e o q).env s=p.2:=λs=>dT6 s;have D:∀k g,σ.hasA k g->(xI σ G).av k g=G.av k g:=λk g h=>eB6 h
 refine⟨xI σ G,?_⟩;refine {nd:=inv.nd,kp:=inv.kp,sz:=inv.sz,env:= ?_,wfE:= ?_,box:= ?_,wfB:= ?_,arr:= ?_,wfA:= ?_,tag:=inv.tag,mineB:=inv.mineB,mineA:=inv.mineA,fzm:=inv.fzm,F0:=inv.F0,lay:=inv.lay,frame:=inv.frame,size:=inv.size,os:=inv.os,tape:=inv.tape,output:=inv.output,args:=λj v h=>⟨(D j 0 ⟨_,(inv.args j v h).2.2.choose_spec,RI _⟩).trans (inv.args j v h).1,(inv.args j v h).2.1,dT9 P.1 (inv.args j v h).2.1 (inv.args j v h).2.2.choose_spec⟩,argb:=λi F h=>⟨(inv.argb i F h).1,(inv.argb i F h).2.1,dS5 P.2 (inv.argb i F h).2.1 (inv.argb i F h).2.2.choose_spec⟩}
 ·intro s
  rcases B s with h|⟨p,m,rfl,h⟩
  ·rw[h];exact .bot _
  ·rw[h]
   obtain⟨u,l⟩:=cP0 S p m;exact(bT8 inv (inv.env p.1) (inv.wfE p.1) u l (mkSt e o q) rfl rfl).1
 ·intro s
  rcases B s with h|⟨p,m,rfl,h⟩
  ·rw[h];simp only[V.ok]
  ·rw[h]
   obtain⟨u,l⟩:=cP0 S p m;exact(bT8 inv (inv.env p.1) (inv.wfE p.1) u l (mkSt e o q) rfl rfl).2
 ·intro i cs hi
  obtain⟨p,m,rfl,rfl⟩:=aF5 hi;obtain⟨d,f,u,l⟩:=cF4 R p m;obtain⟨c,t,N,A,O⟩:=inv.box p.1 d f;obtain⟨q1,M⟩:=bL3 u l;refine⟨c,t,N,⟨by rw[A.len,q1],A.one,λi v y hv hy=>?_⟩,O⟩
  have hlt:i<d.length:=Fh;have n:d[i]? =some d[i] :=I7
  obtain⟨K,L⟩:=M i d[i] y n hy;exact(aG3 inv (A.rel i v d[i] hv n) (aH.1 (inv.wfB p.1 d f) _ (TA hlt)) K L (mkSt e o q) rfl rfl).1
 ·intro i cs hi
  obtain⟨p,m,rfl,rfl⟩:=aF5 hi;obtain⟨d,f,u,l⟩:=cF4 R p m;obtain⟨c,t,N,A,O⟩:=inv.box p.1 d f;obtain⟨q1,M⟩:=bL3 u l;rw[aH];intro y hy;obtain⟨i,E⟩:=Rx hy;have hlt:i<d.length:=by rw[q1];exact(QR.1 E).1
  have n:d[i]? =some d[i] :=I7;have X:i<c.toList.length:=by rw[A.len];exact hlt
  obtain⟨K,L⟩:=M i d[i] y n E;exact(aG3 inv (A.rel i c.toList[i] d[i] Af n) (aH.1 (inv.wfB p.1 d f) _ (TA hlt)) K L (mkSt e o q) rfl rfl).2
 ·intro k en H
  obtain⟨p,m,rfl,rfl⟩:=aF5 H;have h:=cO0 Q p m;unfold wkAE at h;split at h
  ·rename_i C z
   have J:=cR3 inv z h.1 h.2.1 h.2.2.1 h.2.2.2;refine J.keep (bD1 σ w G) ?_ ?_ (λb W=>⟨W,rfl⟩)
   ·rw[<-h.2.2.2];exact inv.wfA _ _ z
   ·exact D _ _ ⟨C,z,Aa⟩
  ·rename_i z
   obtain⟨u,l,U⟩:=h;have x:(xI σ G).av p.1 p.2.gen= .slice none 0 0:=by simp[xI,z]
   have hlt:=blt U;unfold gW;split
   ·rw[l];trivial
   ·rename_i I;rw[I]at u;exact u.elim
   ·rw[x,l];exact⟨hlt, .inl ⟨.inl rfl,rfl⟩⟩
   ·rw[x,l];exact⟨hlt, .inl (.inl ⟨.inl rfl,rfl⟩)⟩
 ·intro k en H
  obtain⟨p,m,rfl,rfl⟩:=aF5 H;have h:=cO0 Q p m;unfold wkAE at h;split at h
  ·rename_i C z
   rw[<-h.2.2.2];exact inv.wfA _ _ z
  ·rw[h.2.1];simp only[V.okL]
end
section
variable{T:Tab}{P:Program}{Φ:Fr}{σ:St}{a:Act}{w w':World}{G G':Gh}{K:VK}{o:Oper}{d:Nat}
end
section
variable{T:Tab}{P:Program}{σ:St}
theorem eY7{x y:aA2}{Q:Exit->St->Prop}(h:x σ λe a=>match e with
 | .normal=>y a Q
 |e=>Q e a):dG2 T x y σ Q:=by refine⟨?_⟩;exact .inl h
theorem dJ4{x y:aA2}{Q:Exit->St->Prop}(A:Type)(st:A->St)(inv:A->Prop)(h:x σ λe a=>match e with
 | .normal=>∃p,Le T a (st p)/\inv p
 |e=>Q e a)(b:∀p,inv p->y (st p) Q):dG2 T x y σ Q:=by refine⟨?_⟩;exact .inr ⟨⟨A,st,inv,λ_=>0⟩,h,b⟩
theorem lD{x:aA2}{Q:Exit->St->Prop}{A:Type}(st:A->St)(inv:A->Prop)(m:A->Nat)(b:A)(c:Le T σ (st b))(d:inv b)(h:∀p,inv p->x (st p) λe a=>match e with
 | .normal=>∃p',Le T a (st p')/\inv p'/\m p'<m p
 |e=>Q e a):bI0 T x σ Q:=by refine⟨?_⟩;exact⟨⟨A,st,inv,m⟩,⟨b,c,d⟩,h⟩
theorem jU{b:Bool}{A B:Prop}(a:b=true->A)(c:b=false->B):branch b A B:=by
 cases b
 ·exact c rfl
 ·exact a rfl
theorem dC8{a b:Int}:ltB a b=true↔a<b:=by unfold ltB;simp
theorem eU6{a b:Int}:ltB a b=false↔b<=a:=by unfold ltB;simp
theorem bV6{a b:Int}:leB a b=true↔a<=b:=by unfold leB;simp
theorem eU7{a b:Int}:leB a b=false↔b<a:=by unfold leB;simp
theorem aA1{a b:Int}:eqB a b=true↔a=b:=by unfold eqB;simp
theorem dY0{a b:Int}:eqB a b=false↔a≠b:=by unfold eqB;simp
theorem eQ7(a b:Bool):andB a b=(a&&b):=by unfold andB;rfl
theorem cA1(a b:Bool):eqBB a b=(a==b):=by unfold eqBB;rfl
theorem br_lt{a b:Int}{A B:Prop}(c:a<b->A)(d:b<=a->B):branch (ltB a b) A B:=jU (λh=>c (dC8.1 h)) (λh=>d (eU6.1 h))
theorem br_le{a b:Int}{A B:Prop}(c:a<=b->A)(d:b<a->B):branch (leB a b) A B:=jU (λh=>c (bV6.1 h)) (λh=>d (eU7.1 h))
theorem eV7{a b:Int}{A B:Prop}(c:a=b->A)(d:a≠b->B):branch (eqB a b) A B:=jU (λh=>c (aA1.1 h)) (λh=>d (dY0.1 h))
theorem eZ2{b:Bool}{A B:Prop}(h:branch b B A):branch (!b) A B:=by cases b<;>exact h
theorem mG(a b:Int):maxI a b=max a b:=by unfold maxI;split<;>omega
theorem lH(a b:Int):minI a b=min a b:=by unfold minI;split<;>omega
theorem eH4{n:Int}{K:Int->Prop}(h: -9223372036854775808<=n/\n<=9223372036854775807)(a:K n):arith .i64 n K:=by
 refine⟨?_⟩;rw[show IntKind.wrap .i64 n=n from IntWalk.i64_in _ Aa];exact a
theorem fU{p K:Prop}(h:p)(a:K):need p K:=by refine⟨?_⟩;exact⟨h,a⟩
theorem eQ9{a:Type}{f:a->V}{l:List a}{i:Nat}{K:V->Prop}(hi:i<l.length)(h:∀x,l[i]? =some x->K (f x)):idx (l.map f) i K:=by
 refine⟨?_⟩;exact⟨f l[i],by simp[hi],h _ (by simp[hi])⟩
theorem dE3{l:List V}{i:Nat}{K:V->Prop}(x:V)(h:l[i]? =some x)(a:K x):idx l i K:=by refine⟨?_⟩;exact⟨x,h,a⟩
theorem eZ1{T:Tab}{env:Nat->V}{ops:List Oper}{K:List (Nat×List Nat)->Prop}(h:cP6 T ops=true)(a:K []):aC9 T env ops K:=by refine⟨?_⟩;exact⟨[],[],trivial,h,a⟩
theorem cC0{T:Tab}{env:Nat->V}{ops:List Oper}{K:List (Nat×List Nat)->Prop}(a:List (Nat×Nat))(b:cO4 a env)(h:oO T a [] ops=true)(c:K []):aC9 T env ops K:=by refine⟨?_⟩;exact⟨a,[],b,h,c⟩
theorem bW8{T:Tab}{env:Nat->V}{ops:List Oper}{K:List (Nat×List Nat)->Prop}(a:List (Nat×Nat))(hv:List (Nat×List Nat))(b:cO4 a env)(h:oO T a hv ops=true)(c:K hv):aC9 T env ops K:=by refine⟨?_⟩;exact⟨a,hv,b,h,c⟩
theorem aS5{a:Md}{d:Nat}{f:FuncId}{xs ys:List V}{r:V}{K:VK}(g:Spec T P f ys r)(lend:Bool)(c:iQ T σ.ar ys xs)(b:sO a.light lend xs ys r=true)
 (e:zZ σ d (reuse σ (bD ys xs)) r λv h=>K v (appR (cond lend [] (aV σ (bK ys xs))) (appR (aX σ (bD ys xs)) h))):kY T P a σ d f xs K:=by
 refine⟨.inl ?_⟩;exact⟨ys,r,lend,c,b,g,e⟩
theorem aQ2{d:Nat}{f:FuncId}{xs ys:List V}{r:V}{K:VK}{j k g:Nat}{e:TypeId}{l b:List V}(n:bE5 T P f ys r j e b)(p:ys[j]? =some (.own e l))(o:xs[j]? =some (.arr k g))(i:iQ T σ.ar ys xs)(c:sO false false xs ys r=true)(h:aH7 r=true)
 (m:K r (appR (aV σ (bK ys xs)) (appR (aX σ (bD ys xs)) [.a k ⟨g, .own,e,b⟩]))):kY T P .free σ d f xs K:=by
 refine⟨.inr (.inl ⟨rfl,ys,r,j,k,g,e,l,b,i,c,n,p,o,h,m⟩)⟩
theorem fC9{a:Md}{d:Nat}{f:FuncId}{xs ys:List V}{bs b:List (List V)}{r:V}{K:VK}(i:aU2 T P f ys bs r b)(is:List Nat)(h:a.may d is ((xs,ys)::eU σ.bx bs is)=true)(e:xM T σ.ar is ((xs,ys)::eU σ.bx bs is))(c:zA σ.bx ((xs,ys)::eU σ.bx bs is) is bs r=true)
 (g:aX2 σ.bx σ.ar is (ownG ((xs,ys)::eU σ.bx bs is)) d r b λv j=>K v (appR (aV σ (mF ((xs,ys)::eU σ.bx bs is))) (appR (aX σ (ownG ((xs,ys)::eU σ.bx bs is))) j))):kY T P a σ d f xs K:=by
 refine⟨.inr (.inr (.inl ⟨ys,is,bs,r,b,h,e,c,i,g⟩))⟩
theorem fA7{rs:List ResultVar}{r:V}{bs:List (List V)}(h:aH3 T σ rs λxs=>match xs with
 | [x] =>xM T σ.ar (iP bs 0) (([x],[r])::eU σ.bx bs (iP bs 0))/\aT2 σ.bx (([x],[r])::eU σ.bx bs (iP bs 0)) (iP bs 0)=true/\(∀rs,r≠ .tup rs)
 |xs=>∃ys,r= .tup ys/\xM T σ.ar (iP bs 0) ((xs,ys)::eU σ.bx bs (iP bs 0))/\aT2 σ.bx ((xs,ys)::eU σ.bx bs (iP bs 0)) (iP bs 0)=true):retB T σ rs r bs:=⟨h⟩
theorem cA7{rs:List ResultVar}{r:V}{j:Nat}{e:TypeId}{l:List V}(h:aH3 T σ rs λxs=>match xs with
 | [x] =>iQ T σ.ar [r, .own e l] [x, .arr j 0]/\iR [x, .arr j 0] [r, .own e l] =true/\aH7 r=true/\(∀rs,r≠ .tup rs)
 |xs=>∃ys,r= .tup ys/\iQ T σ.ar (appR ys [.own e l]) (appR xs [.arr j 0])/\iR (appR xs [.arr j 0]) (appR ys [.own e l])=true):dC6 T σ rs r j e l:=⟨h⟩
theorem ret_i{rs:List ResultVar}{r:V}(h:aH3 T σ rs λxs=>match xs with
 | [x] =>iQ T σ.ar [r] [x]/\iR [x] [r] =true/\(∀rs,r≠ .tup rs)
 |xs=>∃ys,r= .tup ys/\iQ T σ.ar ys xs/\iR xs ys=true):dF3 T σ rs r:=by refine⟨.inl ?_⟩;exact h
theorem gI0{rs:List ResultVar}{r:V}(h:aH3 T σ rs λxs=>match xs with
 | [x] =>∃ys cs,r= .tup (.bot::ys)/\x= .agg cs/\iQ T σ.ar ys cs/\iR cs ys=true
 |_=>False):dF3 T σ rs r:=by refine⟨.inr ?_⟩;exact h
theorem aP{ar:Nat->Option AE}{u a:Value}(h:a=u):iQ T ar [.lit u] [.lit a]/\iR [.lit a] [.lit u] =true/\(∀rs,(V.lit u)≠ .tup rs):=⟨⟨h,trivial⟩,rfl,λ_ h=>Ah⟩
theorem aG{ar:Nat->Option AE}{k:IntKind}{n a:Int}(h:a=n):iQ T ar [.lit (.int k n)] [.lit (.int k a)]/\iR [.lit (.int k a)] [.lit (.int k n)] =true/\(∀rs,(V.lit (.int k n))≠ .tup rs):=aP (by rw[h])
theorem aK{ar:Nat->Option AE}{n a:Bool}(h:a=n):iQ T ar [.lit (.bool n)] [.lit (.bool a)]/\iR [.lit (.bool a)] [.lit (.bool n)] =true/\(∀rs,(V.lit (.bool n))≠ .tup rs):=aP (by rw[h])
theorem eY0{en:AE}{g:Nat}{K:Prop}(a:en.gen=g)(b:en.kind≠ .dead)(c:K):need (en.gen=g/\en.kind≠ .dead) K:=fU ⟨a,b⟩ c
theorem iH{en:AE}{g e a size:Nat}{xs:List V}{K:Prop}(b:en.gen=g)(c:en.kind= .own\/en.kind= .ap)(d:en.ty=e)(j:a<=10000)(i:∀x∈xs,x.cells.length=size)(f:en.l.length+xs.length<=1000000000)(k:K):
 need (en.gen=g/\(en.kind= .own\/en.kind= .ap)/\en.ty=e/\(en.l.length+xs.length)*a<=140737488355328/\en.l.length+xs.length<=140737488355328/\∀x∈xs,x.cells.length=size) K:=
 fU ⟨b,c,d,Ro (UF f j) Ai,Aa,i⟩ k
theorem gX{a size:Nat}{xs:List V}{K:Prop}(d:a<=10000)(c:∀x∈xs,x.cells.length=size)(b:xs.length<=1000000000)(e:K):
 need (xs.length*a<=140737488355328/\xs.length<=140737488355328/\∀x∈xs,x.cells.length=size) K:=
 fU ⟨Ro (UF b d) Ai,Aa,c⟩ e
theorem dA{x:V}{n:Nat}(h:x.cells.length=n):∀y∈[x],y.cells.length=n:=λy a=>by cases QW.1 a;exact h
theorem Le.trans{a b c:St}(d:Le T a b)(e:Le T b c):Le T a c:=by
 grind [Le]
theorem eV6{es:List V}{s:Value}{z:V}{K:V->Prop}{v:V}(h:(jG s es).getD z=v)(k:K v):eG6 es s z K:=⟨by rw[h];exact k⟩
theorem eS1{f:Operand}{g:FuncId}{b:List V}{ps wr:List Nat}{x y:aA2}{Q:Exit->St->Prop}(a:List (List V))(s:aB0 T P g b a)(r:∀d∈a,d.length=ps.length){A:Type}(st:A->St)(inv:Nat->A->Prop)(j:A)
 (m:Le T σ (st j))(n:inv 0 j)(q:(st j).ev f= .fn g b)(h:∀k p d,inv k p->a[k]? =some d->x ⟨cM2 ps d (st p).env,(st p).bx,(st p).ar⟩ λe l=>match e with
  | .normal=>y l λe c=>match e with
    | .normal=>∃p',Le T (sJ wr c) (st p')/\inv (k+1) p'
    | .ret=>Q .ret (sJ wr c)
    | .exit i=>Q (.exit i) (sJ wr c)
    |_=>False
  |_=>False)(o:∀p,inv a.length p->Q .normal (st p)):aO0 T P f g b ps wr x y σ Q:=⟨a,s,r,A,st,inv,⟨j,m,n,q⟩,h,o⟩
theorem fB{k:Nat}{en:AE}(h:σ.ar k=some en)(c:en.kind= .own\/en.kind= .ap):Le T σ (σ.apps [.a k ⟨en.gen, .frz,en.ty,en.l⟩]):=by
 unfold Le;intro Φ a w G inv;obtain⟨O',b,_,_⟩:=inv.freeze h c;exact⟨_,b⟩
def aL5(k g:Nat)(l:List V)(x:V):V:=match x with
 | .arr j g'=>cond (Nat.beq j k) (cond (Nat.beq g' g) (.sl l) .bot) (.arr j g')
 |x=>x
def eE7(k g:Nat)(l:List V)(x:V):V:=match x with
 | .arr j g'=>cond (Nat.beq j k) (cond (Nat.beq g' g) (.sl l) .bot) (.arr j g')
 | .agg xs=> .agg (mapR (aL5 k g l) xs)
 |x=>x
def fD0(k:Nat)(en:AE)(σ:St):St:=⟨λs=>eE7 k en.gen en.l (σ.env s),σ.bx,upd σ.ar k (some ⟨en.gen, .frz,en.ty,en.l⟩)⟩
theorem cM9{w:World}{G:Gh}{k g:Nat}{l:List V}{v:Value}{x:V}(hl:Rv w G (G.av k g) (.sl l))(h:Rv w G v x):Rv w G v (aL5 k g l x):=by
 unfold aL5;split
 ·exact JC
 ·exact h
theorem cJ0{p:Nat->Prop}{q:Nat->Nat->Prop}{k g:Nat}{l:List V}{x:V}(a:bM l)(h:x.ok p q):(aL5 k g l x).ok p q:=by
 unfold aL5;grind [Nat.beq,V.ok]
theorem eJ7{w:World}{G:Gh}{k g:Nat}{l:List V}{v:Value}{x:V}(b:Rv w G (G.av k g) (.sl l))(h:Rv w G v x):Rv w G v (eE7 k g l x):=by
 cases x with
 |agg xs=>
  show Rv w G v (.agg (mapR (aL5 k g l) xs));rw[dU]
  cases h with
  |agg cs _ a d n=>
   refine .agg cs _ (by simp[a]) d (λi c y m e=>?_)
   rw[RD]at e;grind [cM9]
 |arr j f=>exact cM9 b h
 |_=>exact h
theorem eG5{p:Nat->Prop}{q:Nat->Nat->Prop}{k g:Nat}{l:List V}{x:V}(a:bM l)(h:x.ok p q):(eE7 k g l x).ok p q:=by
 cases x with
 |agg xs=>
  show(V.agg (mapR (aL5 k g l) xs)).ok p q;grind [dU,aH,cJ0,V.ok]
 |arr j b=>exact cJ0 a h
 |_=>exact h
theorem aZ8(k:Nat){en:AE}(h:σ.ar k=some en)(d:en.kind= .own\/en.kind= .ap):Le T σ (fD0 k en σ):=by
 unfold Le;intro Φ a w G inv;obtain⟨O',b,_,_⟩:=inv.freeze h d;have e:=inv.wfA k en h;have c:Rv w {G with O:=O'} (G.av k en.gen) (.sl en.l):=b.arr k ⟨en.gen, .frz,en.ty,en.l⟩ (upd_same _ _ _)
 refine⟨_,{b with env:=λs=>?_,wfE:=λs=>?_}⟩
 ·exact eJ7 c (b.env s)
 ·exact eG5 e (b.wfE s)
def meltM(k g:Nat)(v:V)(x:V):V:=match x with
 | .arr j g'=>cond (Nat.beq j k) (cond (Nat.beq g' g) v .bot) (.arr j g')
 |x=>x
def meltMap(k g:Nat)(ty:TypeId)(v:V)(σ:St):St:=⟨λs=>meltM k g v (σ.env s),λi=>match σ.bx i with|none=>none|some l=>some (mapR (meltM k g v) l),upd σ.ar k (some ⟨g, .dead,ty,[]⟩)⟩
theorem meltM_rv{w:World}{G:Gh}{k g:Nat}{u:V}{v:Value}{x:V}(hl:Rv w G (G.av k g) u)(h:Rv w G v x):Rv w G v (meltM k g u x):=by
 unfold meltM;split
 ·exact JC
 ·exact h
theorem meltM_ok{p:Nat->Prop}{q:Nat->Nat->Prop}{k g:Nat}{u:V}{x:V}(b:u.pure)(h:x.ok p q):(meltM k g u x).ok p q:=by
 unfold meltM;split
 ·rename_i j a
  cases d:Nat.beq j k with
  |false=>exact h
  |true=>
   cases c:Nat.beq a g with
   |false=>simp only[cond,V.ok]
   |true=>exact b.ok _ _
 ·exact h
theorem le_frzm(k:Nat){g:Nat}{ty:TypeId}{es:List V}(e:Value)(h:σ.ar k=some ⟨g, .dead,ty, .bot::es⟩)(L:cD3 (T.row (T.row ty).alen).kd e=true):Le T σ (meltMap k g ty (V.mapV e es) σ):=by
 unfold Le;intro Φ a w G inv;have K:=inv.arr k _ h;have N:bM es:=by have:=inv.wfA k _ h;simp only[bM,V.okL]at this;exact this.2
 have hd:=lit_key L;obtain⟨b,f,n,C,M,q3,Q,R⟩:=(K:bL6 _ w G k _ es);rw[<-hd]at Q R
 let O':Nat->Tag:=λb=>match G.O b with| .ar j=>if j=k then .fz else .ar j|t=>t
 have o:∀b,G.O b≠ .ar k->O' b=G.O b:=by
  grind
 have H:∀b,G.O b= .ar k->O' b= .fz:=by
  grind
 have I:Keep w w G {G with O:=O'}:=⟨λb hb=>(o b AP).trans hb,λ_ _=>rfl⟩
 have d:Inv T Φ (σ.apps [.a k ⟨g, .dead,ty,[]⟩]) a w {G with O:=O'}:=by
  refine inv.zU (w':=w) (k:=k) (en:=⟨g, .dead,ty,[]⟩) (av':=G.av) (O':=O') (λg' ⟨S,C,M⟩=>by rw[h]at C;cases C;exact M) (λ_ _ _=>rfl) Gz trivial (λb _ hb=>o b hb) ?_ (λ_ _ _=>rfl) (QV _) rfl rfl rfl
  grind
 let val:Value->Value:=λs=>match Instr.findNow (litD e) s f.toList 0 with|some (some (_,v))=>v|_=>undef
 have q6:∀s x,MapKept.IsKey (litD e) s->jG s es=some x->∃i,Instr.findNow (litD e) s f.toList 0=some (some (i,val s))/\(val s).oneCell'=true/\Rv w G (val s) x:=by
  grind
 have q:Rv w {G with O:=O'} (G.av k g) (V.mapV e es):=by
  rw[C];refine .mp b f n 0 e es val (H b M) q3 Q (λs B m=>?_) (λs x B m=>?_) (λs x B m=>?_)
  ·have:=R s B
   rw[m]at this;exact this
  ·simp_all
  ·obtain⟨i,r1,r2,r3⟩:=q6 s x B m
   exact r3.aW I (assoc_pure N m)
 have u:(V.mapV e es).pure:=by simp only[V.mapV,V.pure,V.ok,V.okL,U4,true_and];exact N
 have F:∀i,(σ.apps [.a k ⟨g, .dead,ty,[]⟩]).hasB i->(meltMap k g ty (V.mapV e es) σ).hasB i:=λi ⟨l,r⟩=>⟨mapR (meltM k g (V.mapV e es)) l,by
  show(match σ.bx i with|none=>none|some l=>some (mapR (meltM k g (V.mapV e es)) l))=_
  have J:σ.bx i=some l:=r;rw[J]⟩
 have bx:∀i cs,(meltMap k g ty (V.mapV e es) σ).bx i=some cs->∃l,σ.bx i=some l/\cs=l.map (meltM k g (V.mapV e es)):=by
  intro i cs hi;have aa:(match σ.bx i with|none=>none|some l=>some (mapR (meltM k g (V.mapV e es)) l))=some cs:=hi
  grind [dU]
 refine⟨_,{d with env:=λs=>?_,wfE:=λs=>?_,box:=λi cs hi=>?_,wfB:=λi cs hi=>?_,argb:=λi b hb=>?_}⟩
 ·exact meltM_rv q (d.env s)
 ·exact V.ok.imp F (λ_ _ h=>h) _ (meltM_ok u (d.wfE s))
 ·obtain⟨l,r,rfl⟩:=bx i cs hi
  obtain⟨c,t,U,E,W⟩:=d.box i l r;refine⟨c,t,U,⟨by simpa using E.len,E.one,λj v x hv m=>?_⟩,W⟩
  rw[RD]at m
  cases A:l[j]? with
  |none=>rw[A]at m;cases m
  |some y=>
   rw[A]at m;cases m;exact meltM_rv q (E.rel j v y hv A)
 ·obtain⟨l,r,rfl⟩:=bx i cs hi
  refine aH.2 λy A=>?_;obtain⟨z,L,rfl⟩:=Ru.1 A;exact V.ok.imp F (λ_ _ h=>h) _ (meltM_ok u (aH.1 (d.wfB i l r) z L))
 ·obtain⟨X,Y,cs,Z⟩:=d.argb i b hb
  obtain⟨D,h4⟩:=F i ⟨cs,Z⟩;exact⟨X,Y,D,h4⟩
theorem bB4{K:St->Prop}{a:St}(h:Le T σ a)(b:K a):cR5 T σ K:=⟨⟨a,h,b⟩⟩
end
section
abbrev ItQ:=Exit->Option Nat->St->Prop
abbrev ItC:=Option Nat->St->ItQ->Prop
def yieldOf(env:Nat->V)(o:Oper):Option (Nat×List Operand):=
 match o.op with
 | .call ⟨.value (.tmp t),⟨as⟩,_⟩=>match env t with| .lit (.func (.yield l) ⟨[]⟩ ⟨[]⟩)=>some (l,as)|_=>none
 |_=>none
structure dC9(items:List (List V))(l l':Nat)(k:Nat)(xs:List V)(A B:Prop):Prop where
 out:l'=l/\items[k]? =some xs/\bM xs/\A/\B
abbrev ItO:=Option Nat->(Nat->V)->(Nat->Option (List V))->(Nat->Option AE)->(Option Nat->St->Prop)->Prop
def cV6(T:Tab)(P:Program)(n:Nat)(items:List (List V))(yl:Nat)(ops:List Oper)(o:Oper)(ih:ItO):ItO:=λk env bx ar K=>
 match yieldOf env o with
 |some (yl',as)=>match o.guard,k,o.dst with
  |none,some k,some d=>cond (Nat.blt d n) (dC9 items yl yl' k (mapR (St.ev ⟨env,bx,ar⟩) as) (ih (some (k+1)) (upd env d (B true)) bx ar K) (ih none (upd env d (B false)) bx ar K)) False
  |_,_,_=>False
 |none=>bH0 T P .free n ops o (λenv bx ar _=>ih k env bx ar K) env bx ar (λ_=>True)
def cE1(T:Tab)(P:Program)(n:Nat)(items:List (List V))(yl:Nat)(ops l:List Oper):ItO:=
 List.rec (motive:=λ_=>ItO) (λk env bx ar K=>K k ⟨env,bx,ar⟩) (λo _ ih=>cV6 T P n items yl ops o ih) l
structure eF8(x y:ItC)(k:Option Nat)(σ:St)(Q:ItQ):Prop where
 out:x k σ λe k' σ'=>match e with
  | .normal=>y k' σ' Q
  |e=>Q e k' σ'
structure bX4(T:Tab)(x:ItC)(k:Option Nat)(σ:St)(Q:ItQ):Prop where
 out:∃(A:Type) (st:A->St) (kk:A->Option Nat) (inv:A->Prop) (m:A->Nat),(∃p,Le T σ (st p)/\inv p/\kk p=k)/\∀p,inv p->x (kk p) (st p) λe k' σ'=>match e with
  | .normal=>∃p',Le T σ' (st p')/\inv p'/\kk p'=k'/\m p'<m p
  |e=>Q e k' σ'
def aI3(T:Tab)(P:Program)(n:Nat)(items:List (List V))(yl:Nat)(c:Code):ItC:=
 Code.rec (motive:=λ_=>ItC)
  (λk σ Q=>Q .normal k σ)
  (λ_ ops draw k σ Q=>match σ with|⟨env,bx,ar⟩=>match draw with
   |true=>aC9 T env ops.toList (λhv=>aY0 T P (.drawn hv) n ops.toList ops.toList env bx ar (Q .normal k))
   |false=>cE1 T P n items yl ops.toList ops.toList k env bx ar (Q .normal))
  (λ_ _ iha ihb=>eF8 iha ihb)
  (λc _ _ iht ihe k σ Q=>match σ.ev c with
   | .lit (.bool b)=>branch b (iht k σ Q) (ihe k σ Q)
   |_=>False)
  (λid _ ih k σ Q=>ih k σ λe k' σ'=>match e with
   | .exit i=>cond (Nat.beq i id) (Q .normal k' σ') (Q (.exit i) k' σ')
   |e=>Q e k' σ')
  (λ_ ih=>bX4 T ih)
  (λ_ _ _ _ _ _ _ _ _=>False)
  (λid k σ Q=>Q (.exit id) k σ)
  (λ_ ih k σ Q=>ih k σ λe k' σ'=>match e with
   | .goto _=>False
   |e=>Q e k' σ')
  (λ_ k σ Q=>Q .normal k σ)
  (λ_ _ _ _=>False)
  (λk σ Q=>Q .ret k σ)
  (λ_ _ _ _=>False) c
def dZ2(n:Nat)(k:Option Nat):Prop:=match k with|some k=>k=n|none=>True
def itVC(T:Tab)(P:Program)(fn:Func)(caps:List V)(items:List (List V)):Prop:=
 match fn.body,fn.results.toList with
 |some c,[] =>∀l:Nat,aI3 T P fn.ntmps items l c (some 0) (uD (.lit (.func (.yield l) ⟨[]⟩ ⟨[]⟩)::caps)) λe k _=>match e with
  | .normal=>dZ2 items.length k
  | .ret=>dZ2 items.length k
  |_=>False
 |_,_=>False
variable{T:Tab}{P:Program}{Φ:Fr}{σ:St}{a:Act}{w w':World}{G G':Gh}{o:Oper}
theorem Inv.move(inv:Inv T Φ σ a w G)(g:w.heap.size<=w'.heap.size)(d:∀b,G.O b≠ .ext->w'.heap[b]? =w.heap[b]?)(m:w'.os=w.os)(q:w'.tape=w.tape)(r:w'.output=w.output):Inv T (Φ.at w' G) σ a w' G:=by
 have c:Inv T {(Φ.at w G)with given:=λb=>G.O b≠ .fz} σ a w G:=by
  have i:=inv.up;refine {nd:=i.nd,kp:=i.kp,sz:=i.sz,env:=i.env,wfE:=i.wfE,box:=i.box,wfB:=i.wfB,arr:=i.arr,wfA:=i.wfA,tag:=i.tag,mineB:=λb j h=> .inr (by show G.O b≠ .fz;rw[h];simp),mineA:=λb k h=> .inr (by show G.O b≠ .fz;rw[h];simp),fzm:=λb h=> .inl h,F0:=i.F0,frame:=λb _ _=>rfl,size:=i.size,os:=i.os,tape:=i.tape,output:=i.output,args:=i.args,lay:=⟨i.lay.1,λb d=>⟨(i.lay.2 b d).1,λh=>h d⟩⟩,argb:=i.argb}
 have f:=c.change (w':=w') (G':=G) rfl ⟨λ_ h=>h,λb h=>d b GR⟩ (λ_ _=>rfl) (λ_ _ _=>rfl) (λ_ h=>h) (λ_ _ h=>h)
  (λi cs hi=> .inl ⟨hi,(c.box i cs hi).choose_spec.choose_spec.2.2,d _ (by rw[(c.box i cs hi).choose_spec.choose_spec.2.2];simp)⟩)
  (λk en l=> .inl ⟨l,λb e=>⟨e,d b (by rw[e];simp)⟩⟩)
  (λb h=>SB (c.tag b h) g) (λ_=> .inl rfl)
  (λb=>by
   by_cases h:G.O b= .fz
   ·exact .inl (d b GR)
   ·exact .inr (.inr h)) g m q r
 exact f.up
structure pU(T:Tab)(n:Nat)(w:World)(JX:Option Nat->World->Gh->Prop)(k:Option Nat)(σ:St)(a:Act)(W:World)(Φ:Fr)(G' Gi:Gh):Prop where
 nn:Φ.n=n
 ds:Φ.ds=[]
 kp:Φ.keep=λ_=>none
 jx:JX k Φ.w0 G'
 tag:∀b,G'.O b≠ .ext->b<Φ.w0.heap.size
 F0:∀b,Φ.F0 b->G'.O b= .fz\/(w.heap.size<=b/\G'.O b= .ext)
 given:∀b,Φ.given b->w.heap.size<=b/\G'.O b= .ext
 size:w.heap.size<=Φ.w0.heap.size
 inv:Inv T Φ σ a W Gi
section
variable{n:Nat}{JX:Option Nat->World->Gh->Prop}{k:Option Nat}{Gi:Gh}{w0 W:World}
theorem pU.own(h:pU T n w0 JX k σ a W Φ G' Gi){b:Nat}(l:Gi.O b≠ .ext):(Gi.O b= .fz/\G'.O b= .fz)\/(w0.heap.size<=b/\b<W.heap.size/\G'.O b= .ext):=by
 have c:Φ.mine b->w0.heap.size<=b/\G'.O b= .ext:=λc=>by
  rcases c with c|c
  ·refine⟨Ro h.size c,?_⟩
   cases hO:G'.O b with
   |ext=>rfl
   |_=>have:=h.tag b Ie;omega
  ·exact h.given b c
 have d:=h.inv.tag b l
 cases hO:Gi.O b with
 |ext=>exact absurd hO l
 |bx i=>
  obtain⟨g,j⟩:=c (h.inv.mineB b i hO);simp_all
 |ar i=>
  obtain⟨g,j⟩:=c (h.inv.mineA b i hO);simp_all
 |fz=>
  rcases h.inv.fzm b hO with f|f
  ·rcases h.F0 b f with e|e
   ·exact .inl ⟨rfl,e⟩
   ·exact .inr ⟨e.1,d,e.2⟩
  ·obtain⟨g,j⟩:=c f
   exact .inr ⟨g,d,j⟩
def Jcl(w:World)(JX:Option Nat->World->Gh->Prop):Prop:=∀k W W' G',JX k W G'->W.heap.size<=W'.heap.size->(∀b,b<W.heap.size->(G'.O b≠ .ext\/b<w.heap.size)->W'.heap[b]? =W.heap[b]?)->W'.os=W.os->W'.tape=W.tape->W'.output=W.output->JX k W' G'
def Jfz(w:World)(JX:Option Nat->World->Gh->Prop):Prop:=∀k W G' G'',JX (some k) W G'->G''.β=G'.β->G''.av=G'.av->(∀b,G''.O b=G'.O b\/(w.heap.size<=b/\b<W.heap.size/\G'.O b= .ext/\G''.O b= .fz))->JX (some k) W G''
def dA0(P:Program)(w:World)(items:List (List V))(l:Nat)(JX:Option Nat->World->Gh->Prop):Prop:=∀k W G' vs it,JX (some k) W G'->items[k]? =some it->vs.size=it.length->(∀(j:Nat) v y,vs[j]? =some v->it[j]? =some y->y.pure/\Rv W G' v y)->
 YieldAt (FW none) 0 P l vs W λe W'=>(e= .returned (.bool true)/\∃G2,JX (some (k+1)) W' G2/\xN w W W' G' G2)\/(e= .returned (.bool false)/\∃G2,JX none W' G2/\xN w W W' G' G2)
theorem pU.now(h:pU T n w0 JX k σ a W Φ G' Gi)(d:Jcl w0 JX):JX k W G':=
 d k _ _ _ h.jx h.inv.size (λb e c=>h.inv.frame b e (λf=>by
  obtain⟨i,g⟩:=h.given b f;rcases c with c|c
  ·exact c g
  ·omega)) h.inv.os h.inv.tape h.inv.output
theorem pU.next(h:pU T n w0 JX k σ a W Φ G' Gi){b:St}{d:Act}{c:World}{Gi':Gh}(inv:Inv T Φ b d c Gi'):pU T n w0 JX k b d c Φ G' Gi':={h with inv:=inv}
theorem cS1{t l:Nat}{as:List Operand}{h:Array TypeId}{d:FuncId}{tmps:Array Value}{b body:Code}(e:o.op= .call ⟨.value (.tmp t),⟨as⟩,h⟩)(f:a.tmps.getD t undef= .func (.yield l) #[] #[])
 (g:(Instr.yield l (as.map a.eval).toArray).run P w= .ok (.round l d tmps b body) w):(execOp a.eval o).run P w= .ok (.round l d tmps b body) w:=by
 have c:a.eval (.tmp t)= .func (.yield l) #[] #[] :=f;simp[execOp,e,resolve,c,Deferred.ofValue,invoke,g]
theorem eH0(hJ:Jcl w0 JX)(hF:Jfz w0 JX){r:List (List V)}{l:Nat}(hY:dA0 P w0 r l JX){D d t:Nat}{as:List Operand}{ts:Array TypeId}(Y:o.op= .call ⟨.value (.tmp t),⟨as⟩,ts⟩)(hd:o.dst=some d)(R:d<n)(hg:σ.env t= .lit (.func (.yield l) ⟨[]⟩ ⟨[]⟩))
 (h:pU T n w0 JX (some D) σ a W Φ G' Gi)(S:r[D]? =some (as.map σ.ev))(hp:bM (as.map σ.ev)){next:Act->World->Prop}{Q:Exit->Act->World->Prop}
 (hn:∀(b:Bool) X m Φ' g,pU T n w0 JX (match b with|true=>some (D+1)|false=>none) (σ.set d (B b)) X m Φ' g Gi->next X m):o.wpIn (FW none) 0 P a W next Q:=by
 have U:a.tmps.getD t undef= .func (.yield l) #[] #[] :=by
  have:=h.inv.env t;rw[hg]at this;exact this.bH
 let g:Gh:={G' with O:=λb=>match G'.O b,Gi.O b with| .ext, .fz=> .fz|x,_=>x}
 have M:∀b,g.O b=G'.O b\/(w0.heap.size<=b/\b<W.heap.size/\G'.O b= .ext/\g.O b= .fz):=λb=>by
  cases L:G'.O b with
  |ext=>
   cases f:Gi.O b with
   |fz=>
    rcases h.own (b:=b) (by rw[f];simp)with q|q
    ·rw[q.2]at L;cases L
    ·grind
   |_=>exact .inl (by simp[g,L,f])
  |_=>exact .inl (by simp[g,L])
 have z:∀b,Gi.O b= .fz->g.O b= .fz:=λb hb=>by
  rcases h.own (b:=b) AP with q|q
  ·simp[g,q.2]
  ·simp[g,q.2.2,hb]
 have hj:=hF D W G' g (h.now hJ) rfl rfl M
 obtain⟨fn,tmps,Z,body,I,hR⟩:=hY D W g (as.map a.eval).toArray _ hj S Af (λj v y hv I=>by
  have F:j<as.length:=by
   have:=(QR.1 I).1;simpa using this
  have e1:v=a.eval as[j] :=by simpa [F]using hv.symm
  have e2:y=σ.ev as[j] :=by simpa [F]using I.symm
  have A:y.pure:=aH.1 hp y (QT I);refine⟨A,?_⟩;rw[e1];rw[e2]at A⊢;exact(h.inv.ev as[j]).1.aW ⟨z,λ_ _=>rfl⟩ A)
 refine⟨λ_ _=>trivial,?_⟩;rw[Oper.semAt_eq _ _ _ (λc=>by rw[Y];exact λh=>by cases h),cS1 Y U I,Oper.uponIn_round]
 refine⟨λhh=>EW,hR.mono ?_⟩
 have E:∀(b:Bool) (m:World) (s:Gh),JX (match b with|true=>some (D+1)|false=>none) m s->xN w0 W m g s->next (a.put o.dst (.bool b)) m:=by
  intro b m s H i
  have C:∀b,Gi.O b≠ .ext->m.heap[b]? =W.heap[b]? :=λb hb=>by
   by_cases u:Gi.O b= .fz
   ·exact i.keep.heap b (z b u)
   ·rcases h.own hb with q|q
    ·exact absurd q.1 u
    ·refine(i.own b q.1 q.2.1 ?_).1
     cases f:Gi.O b with
     |fz=>exact absurd f u
     |_=>simp[g,q.2.2,f]
  have J:=h.inv.move i.size C i.os i.tape i.output;have K:=J.bA3 (d:=d) (v':= .bool b) (v:=B b) ⟨by show d<Φ.n;rw[h.nn];exact R,by show Φ.keep d=none;rw[h.kp]⟩ (.lit _ rfl) (by simp only[B,V.ok])
  rw[hd];refine hn b _ m (Φ.at m Gi) s ⟨h.nn,h.ds,h.kp,H,i.tag,λb hb=>?_,λb hb=>?_,Ro h.size (Ro h.inv.size i.size),K⟩
  ·exact .inl (i.keep.fz b (z b hb))
  ·rcases h.own hb.2 with q|q
   ·exact absurd q.1 hb.1
   ·refine⟨q.1,(i.own b q.1 q.2.1 ?_).2⟩
    have N:Gi.O b≠ .fz:=hb.1
    cases f:Gi.O b with
    |fz=>exact absurd f N
    |_=>simp[g,q.2.2,f]
 rintro e m (⟨rfl,s,H,i⟩|⟨rfl,s,H,i⟩)
 ·exact E true m s H i
 ·exact E false m s H i
def eE2(T:Tab)(n:Nat)(w0:World)(JX:Option Nat->World->Gh->Prop)(Q:ItQ)(e:Exit)(a:Act)(w:World):Prop:=∃k σ Φ G' Gi,Q e k σ/\pU T n w0 JX k σ a w Φ G' Gi
theorem eS2(R:bP T P)(N:Jcl w0 JX)(M:Jfz w0 JX){c:List (List V)}{l:Nat}(S:dA0 P w0 c l JX){ops:List Oper}{i:Array Oper}(L:i.toList=ops){K:Option Nat->St->Prop}{Q:Exit->Act->World->Prop}(O:∀k e j w' Φ G' Gi,K k e->pU T n w0 JX k e j w' Φ G' Gi->Q .normal j w'):
 ∀(r:List Oper) (k:Option Nat) (σ:St) (a:Act) (W:World) (Φ:Fr) (G' Gi:Gh),pU T n w0 JX k σ a W Φ G' Gi->cE1 T P n c l ops r k σ.env σ.bx σ.ar K->wpListIn (FW none) 0 P i Q r a W:=by
 intro r
 induction r with
 |nil=>intro k σ a W Φ G' Gi h m;exact O k σ a W Φ G' Gi m h
 |cons o r x=>
  intro k σ a W Φ G' Gi h m;have f:cV6 T P n c l ops o (cE1 T P n c l ops r) k σ.env σ.bx σ.ar K:=m;unfold cV6 at f;split at f
  ·rename_i aa as s
   split at f
   ·rename_i kk d hg U
    obtain⟨y,z⟩:=aT f;obtain⟨Y,H,I,Z,q4⟩:=z.out;subst Y;rw[dU]at H I;unfold yieldOf at s;split at s
    ·rename_i t J ts X
     split at s
     ·rename_i hv
      cases s;unfold wpListIn;rw[QO Df];refine eH0 N M S X U (blt y) hv h H I ?_;intro b j E v q F
      cases b with
      |true=>exact x _ (σ.set d (B true)) j E v q Gi F Z
      |false=>exact x _ (σ.set d (B false)) j E v q Gi F q4
     ·cases s
    ·cases s
   ·exact f.elim
  ·have C:=aX6 (σ:=σ) f
   have A:∀d,o.dst=some d->Φ.keep d=none:=λd _=>by rw[h.kp]
   have u:Step T P .free Φ.n ops o σ λe=>cE1 T P n c l ops r k e.env e.bx e.ar K:=by rw[h.nn];exact C
   have:=bZ3 R h.inv L A u (Q:=Q) none;unfold wpListIn;split
   ·rename_i D
    rw[QO D]at this;exact Oper.wpIn_mono (λj w' ⟨e,q,m,g⟩=>x k e j w' Φ G' q (h.next g) m) this
   ·rename_i D
    rw[Q5 D]at this;obtain⟨q,e,m,g⟩:=this;exact⟨λ_ _=>trivial,x k e _ W Φ G' q (h.next g) m⟩
theorem eQ3(hT:bP T P)(hm:P.follows .mixedOrders=true)(hJ:Jcl w0 JX)(hF:Jfz w0 JX){g:List (List V)}{l:Nat}(hY:dA0 P w0 g l JX)(c:Code):∀(k:Option Nat) (σ:St) (a:Act) (W:World) (Φ:Fr) (G' Gi:Gh) (Q:ItQ),pU T n w0 JX k σ a W Φ G' Gi->aI3 T P n g l c k σ Q->c.wpIn (FW none) 0 P (eE2 T n w0 JX Q) a W:=by
 induction c with
 |skip=>intro k σ a W Φ G' Gi Q h r;exact wpIn_skip ⟨k,σ,Φ,G',Gi,r,h⟩
 |region id ops U=>
  intro k σ a W Φ G' Gi Q h r
  cases U with
  |false=>
   have z:cE1 T P n g l ops.toList ops.toList k σ.env σ.bx σ.ar (Q .normal):=by cases σ;exact r
   exact wpIn_region_list (eS2 hT hJ hF hY rfl (λk j K w' Φ G' Gi hk hi=>⟨k,j,Φ,G',Gi,hk,hi⟩) ops.toList k σ a W Φ G' Gi h z)
  |true=>
   have z:aC9 T σ.env ops.toList (λhv=>aY0 T P (.drawn hv) n ops.toList ops.toList σ.env σ.bx σ.ar (Q .normal k)):=by cases σ;exact r
   replace z:=z.out;obtain⟨cl,hv,h0,h1,h2⟩:=z;have hr:=aS6 ops.toList σ h2;rw[<-h.nn]at hr;exact bC4 hT none hm rfl (λo _ d _=>by rw[h.kp]) h1 (dC3 h.inv.wfE h0) (λj K w' v hk Z=>⟨k,j,Φ,G',v,hk,h.next Z⟩) id h.inv hr
 |seq x y I J=>
  intro k σ a W Φ G' Gi Q h r;have z:eF8 (aI3 T P n g l x) (aI3 T P n g l y) k σ Q:=r;refine wpIn_seq (TV (I k σ a W Φ G' Gi _ h z.out) ?_);rintro e K w' ⟨D,j,u,v,E,t,hi⟩
  cases e with
  |normal=>exact J D j K w' u v E Q hi t
  |_=>exact⟨D,j,u,v,E,t,hi⟩
 |cond c x y I J=>
  intro k σ a W Φ G' Gi Q h r
  have z:(match σ.ev c with
   | .lit (.bool b)=>branch b (aI3 T P n g l x k σ Q) (aI3 T P n g l y k σ Q)
   |_=>False):=r
  have he:=(h.inv.ev c).1;split at z
  ·rename_i b C
   rw[C]at he
   cases b with
   |true=>exact wpIn_cond_true he.bH (I k σ a W Φ G' Gi Q h z)
   |false=>exact wpIn_cond_false he.bH (J k σ a W Φ G' Gi Q h z)
  ·exact z.elim
 |block id c Y=>
  intro k σ a W Φ G' Gi Q h r;refine wpIn_block (TV (Y k σ a W Φ G' Gi _ h r) ?_);rintro e K w' ⟨D,j,u,v,E,t,hi⟩
  cases e with
  |exit i=>
   have F:cond (Nat.beq i id) (Q .normal D j) (Q (.exit i) D j):=t;show Exit.inBlock id (eE2 T n w0 JX Q) (.exit i) K w';by_cases B:i=id
   ·subst B
    have C:Nat.beq i i=true:=Nat.beq_refl i;rw[C]at F;simp only[Exit.inBlock,TY];exact⟨D,j,u,v,E,F,hi⟩
   ·have C:Nat.beq i id=false:=by rw[<-TU,Tv];exact B
    rw[C]at F;simp only[Exit.inBlock,Q5 B];exact⟨D,j,u,v,E,F,hi⟩
  |_=>exact⟨D,j,u,v,E,t,hi⟩
 |loop c Y=>
  intro k σ a W Φ G' Gi Q h r;have z:bX4 T (aI3 T P n g l c) k σ Q:=r;obtain⟨A,st,kk,inv,m,⟨p0,X,ab,ac⟩,H⟩:=z.out
  have M:∀ {k:Option Nat} {R S:St} {a:Act} {W:World} {Φ:Fr} {G' Gi:Gh},Le T R S->pU T n w0 JX k R a W Φ G' Gi->∃Φ Gi,pU T n w0 JX k S a W Φ G' Gi:=by
   intro k R S a W Φ G' Gi N h;obtain⟨v,aa⟩:=N.out h.inv.up;have L:=λb=>h.own (b:=b);refine⟨Φ.at W Gi,v,?_⟩
   exact⟨h.nn,h.ds,h.kp,h.now hJ,λb C=>SB (h.tag b C) h.inv.size,λb C=>by
    rcases L b (by rw[show Gi.O b= .fz from C];simp)with q|q
    ·exact .inl q.2
    ·exact .inr ⟨q.1,q.2.2⟩,λb C=>by
    rcases L b C.2 with q|q
    ·exact absurd q.1 C.1
    ·exact⟨q.1,q.2.2⟩,Ro h.size h.inv.size,aa⟩
  obtain⟨ag,G0,h0⟩:=M X h;subst ac;refine wpIn_loop_ghost (λn' a w=>∃p Φ G' Gi,m p=n'/\inv p/\pU T n w0 JX (kk p) (st p) a w Φ G' Gi) (m p0) ⟨p0,ag,G',G0,rfl,ab,h0⟩ ?_;rintro n' K w' ⟨p,ah,G1,v,rfl,hi,h1⟩;refine TV (Y (kk p) (st p) K w' ah G1 v _ h1 (H p hi)) ?_;rintro e a2 w2 ⟨D,j,u,E,G4,t,B⟩
  cases e with
  |normal=>
   obtain⟨p',N,af,ad,ae⟩:=t;subst ad;obtain⟨ai,G5,h5⟩:=M N B;exact⟨m p',ae,p',ai,E,G5,rfl,af,h5⟩
  |_=>exact⟨D,j,u,E,G4,t,B⟩
 |rangeFunc f ps x y I J=>intro k σ a W Φ G' Gi Q h r;exact(r:False).elim
 |exit id=>intro k σ a W Φ G' Gi Q h r;exact wpIn_exit ⟨k,σ,Φ,G',Gi,r,h⟩
 |scope c Y=>
  intro k σ a W Φ G' Gi Q h r;refine bE2 (TV (Y k σ a W Φ G' Gi _ h r) ?_);rintro e K w' ⟨D,j,u,v,E,t,hi⟩
  cases e with
  |goto l=>exact t.elim
  |_=>exact⟨D,j,u,v,E,t,hi⟩
 |label l=>intro k σ a W Φ G' Gi Q h r;exact wpIn_label ⟨k,σ,Φ,G',Gi,r,h⟩
 |goto l=>intro k σ a W Φ G' Gi Q h r;exact(r:False).elim
 |ret=>intro k σ a W Φ G' Gi Q h r;exact wpIn_ret ⟨k,σ,Φ,G',Gi,r,h⟩
 |refuse s=>intro k σ a W Φ G' Gi Q h r;exact(r:False).elim
end
theorem dZ5(hT:bP T P)(hm:P.follows .mixedOrders=true){f:FuncId}{q:Func}(hf:P.funcs[f]? =some q)(hc:callable P f=true){d:List V}{g:List (List V)}(hn:d.length+1<=q.ntmps)(hl:allR (λy=> !linear y) d=true)(h:itVC T P q d g):aB0 T P f d g:=by
 refine⟨hc,λw G m l Q U B N J X hJ hX aa hY h0=>?_⟩;unfold itVC at h;split at h
 ·rename_i c r ad
  have h:=h l
  let JX:Option Nat->World->Gh->Prop:=λk W G=>match k with|some k=>J k W G|none=>X W G
  have K:Jcl w JX:=λk W W' G'=>by
   grind
  let Gi:Gh:={G with O:=λb=>match G.O b with| .fz=> .fz|_=> .ext}
  have C:∀b,Gi.O b= .fz↔G.O b= .fz:=λb=>by
   grind
  have ab:Keep w w G Gi:=⟨λb r=>(C b).2 r,λ_ _=>rfl⟩;have ac:T.lay w (λb=>Gi.O b= .fz):=T.lay_mono (λb r=>⟨(C b).2 r,rfl⟩) N
  let Φ:Fr:=⟨w,λ_=>False,λb=>Gi.O b= .fz,q.ntmps,λ_=>none,λ_=>none,[],λ_=>none⟩
  have S:(#[Value.func (.yield l) #[] #[]] ++m).size=d.length+1:=by simp[Q];omega
  have R:∀(j:Nat) y,d[j]? =some y->linear y=false:=λj y hy=>by
   grind [dY,QT]
  have M:∀(s:Nat) y,(V.lit (Value.func (.yield l) ⟨[]⟩ ⟨[]⟩)::d)[s]? =some y->linear y=false/\y.pure/\Rv w Gi ((#[Value.func (.yield l) #[] #[]] ++m).getD s undef) y:=by
   intro s y hy
   cases s with
   |zero=>
    simp at hy;subst hy;refine⟨rfl,by simp only[V.pure,V.ok],?_⟩
    have e:(#[Value.func (.yield l) #[] #[]] ++m).getD 0 undef=Value.func (.yield l) #[] #[] :=by
     simp_all
    rw[e];exact .lit _ rfl
   |succ s=>
    have D:d[s]? =some y:=Dv;have u:s<m.size:=by rw[Q];exact(QR.1 D).1
    obtain⟨q1,q2⟩:=B s m[s] y (by simp[u]) D
    refine⟨R s y D,q1,?_⟩
    have e:(#[Value.func (.yield l) #[] #[]] ++m).getD (s+1) undef=m[s] :=by
     rw[Tq,Array.getElem?_append_right Af];simp[u]
    rw[e];exact q2.aW ab q1
  have x:∀s,(uD (V.lit (Value.func (.yield l) ⟨[]⟩ ⟨[]⟩)::d)).env s=match(V.lit (Value.func (.yield l) ⟨[]⟩ ⟨[]⟩)::d)[s]? with|some y=>y|none=> .tup [] :=λs=>by
   have Z:(uD (V.lit (Value.func (.yield l) ⟨[]⟩ ⟨[]⟩)::d)).env=pF (V.lit (Value.func (.yield l) ⟨[]⟩ ⟨[]⟩)::d) 0:=rfl;rw[Z,lY];grind
  have I:∀k,(uD (V.lit (Value.func (.yield l) ⟨[]⟩ ⟨[]⟩)::d)).ar k=none:=λk=>by
   have Z:(uD (V.lit (Value.func (.yield l) ⟨[]⟩ ⟨[]⟩)::d)).ar=jK (V.lit (Value.func (.yield l) ⟨[]⟩ ⟨[]⟩)::d) 0:=rfl;rw[Z,gY];simp only[RI,TY,Uj];grind [linear]
  have inv:Inv T Φ (uD (V.lit (Value.func (.yield l) ⟨[]⟩ ⟨[]⟩)::d)) {tmps:=(#[Value.func (.yield l) #[] #[]] ++m)++Array.replicate (q.ntmps- (#[Value.func (.yield l) #[] #[]] ++m).size) undef,defers:=[]} w Gi:=by
   constructor
   ·rfl
   ·intro s v u;cases u
   ·grind
   ·intro s
    rw[x s];by_cases u:s< (#[Value.func (.yield l) #[] #[]] ++m).size
    ·have hv:((#[Value.func (.yield l) #[] #[]] ++m)++Array.replicate (q.ntmps- (#[Value.func (.yield l) #[] #[]] ++m).size) undef).getD s undef=(#[Value.func (.yield l) #[] #[]] ++m).getD s undef:=by
      rw[Tq,Tq,Uu u]
     have hy:(V.lit (Value.func (.yield l) ⟨[]⟩ ⟨[]⟩)::d)[s]? =some (V.lit (Value.func (.yield l) ⟨[]⟩ ⟨[]⟩)::d)[s] :=QS (by rw[S]at u;simpa using u)
     show Rv w Gi (((#[Value.func (.yield l) #[] #[]] ++m)++Array.replicate (q.ntmps- (#[Value.func (.yield l) #[] #[]] ++m).size) undef).getD s undef) _;rw[hv,hy];exact(M s _ hy).2.2
    ·have hy:(V.lit (Value.func (.yield l) ⟨[]⟩ ⟨[]⟩)::d)[s]? =none:=Tt (by rw[S]at u;simp;omega)
     rw[hy]
     have hv:((#[Value.func (.yield l) #[] #[]] ++m)++Array.replicate (q.ntmps- (#[Value.func (.yield l) #[] #[]] ++m).size) undef).getD s undef=undef:=by
      rw[Tq,Array.getElem?_append_right Aa];grind
     show Rv w Gi (((#[Value.func (.yield l) #[] #[]] ++m)++Array.replicate (q.ntmps- (#[Value.func (.yield l) #[] #[]] ++m).size) undef).getD s undef) _;rw[hv];exact xK w Gi
   ·intro s
    rw[x s]
    cases hy:(V.lit (Value.func (.yield l) ⟨[]⟩ ⟨[]⟩)::d)[s]? with
    |none=>simp only[V.ok,V.okL]
    |some y=>exact V.pure.ok (M s y hy).2.1 _ _
   ·intro i cs' hi
    exact Oy
   ·intro i cs' hi
    exact Oy
   ·intro k en t;rw[I k]at t;cases t
   ·intro k en t;rw[I k]at t;cases t
   ·grind
   ·grind
   ·grind
   ·intro b r;exact .inl r
   ·intro b r;exact r
   ·intro b _ _;rfl
   ·exact QV _
   ·rfl
   ·rfl
   ·rfl
   ·intro j v h;cases h
   ·grind
   ·intro i b h;cases h
  have hi:pU T q.ntmps w JX (some 0) (uD (V.lit (Value.func (.yield l) ⟨[]⟩ ⟨[]⟩)::d)) {tmps:=(#[Value.func (.yield l) #[] #[]] ++m)++Array.replicate (q.ntmps- (#[Value.func (.yield l) #[] #[]] ++m).size) undef,defers:=[]} w Φ G Gi:=
   ⟨rfl,rfl,rfl,h0,U,λb r=> .inl ((C b).1 r),λb r=>r.elim,QV _,inv⟩
  refine callsIn_of_wp (F:=FW none) hf r trivial (TV (eQ3 hT hm K aa hY c _ _ _ w Φ G Gi _ hi h) ?_)
  have H:∀(k:Option Nat) (σ:St) (A:Act) (w':World) (Φ:Fr) (G' Gi:Gh),dZ2 g.length k->pU T q.ntmps w JX k σ A w' Φ G' Gi->A.defers=[]/\∃v,(results q A.tmps).run P w'= .ok v w'/\((∃v',Ending.returned v= .returned v')/\((∃G',J g.length w' G')\/∃G',X w' G')):=by
   intro k σ A w' Φ G' Gi hk hi;have z:=hi.now K;refine⟨by rw[hi.inv.nd,hi.ds], .tuple #[],?_,⟨_,rfl⟩,?_⟩
   ·have hr:q.results= #[] :=by
     simp_all
    simp[results,hr]
   ·cases k with
    |none=>exact .inr ⟨G',z⟩
    |some k=>
     have:k=g.length:=hk;subst this;exact .inl ⟨G',z⟩
  rintro e A w' ⟨k,σ,Y,G',Gi',E,L⟩
  cases e with
  |normal=>exact H k σ A w' Y G' Gi' E L
  |ret=>exact H k σ A w' Y G' Gi' E L
  |exit id=>exact(E:False).elim
  |goto l=>exact(E:False).elim
  |panic c=>exact(E:False).elim
  |outgrown=>exact(E:False).elim
 ·exact h.elim
theorem cD0{x y:ItC}{k:Option Nat}{Q:ItQ}(h:x k σ λe c b=>match e with
 | .normal=>y c b Q
 |e=>Q e c b):eF8 x y k σ Q:=⟨h⟩
theorem eD4{x:ItC}{k:Option Nat}{Q:ItQ}{A:Type}(st:A->St)(c:A->Option Nat)(inv:A->Prop)(m:A->Nat)(d:A)(g:Le T σ (st d))(i:inv d)(j:c d=k)(h:∀p,inv p->x (c p) (st p) λe f b=>match e with
 | .normal=>∃p',Le T b (st p')/\inv p'/\c p'=f/\m p'<m p
 |e=>Q e f b):bX4 T x k σ Q:=⟨A,st,c,inv,m,⟨d,g,i,j⟩,h⟩
theorem dE2{b:List (List V)}{l k:Nat}{xs:List V}{A B:Prop}(c:b[k]? =some xs)(d:bM xs)(e:A)(f:B):dC9 b l l k xs A B:=⟨rfl,c,d,e,f⟩
end
end Go.Ab
