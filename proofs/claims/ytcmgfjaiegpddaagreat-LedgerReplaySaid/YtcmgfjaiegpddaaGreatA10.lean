/- Lemmas. -/
import Derived.Test.YtcmgfjaiegpddaaGreatA9
set_option linter.all false
noncomputable section
namespace Go.Ab
section
variable{T:Tab}{P:Program}{Φ:Fr}{σ:St}{a:Act}{w w':World}{G G':Gh}{K:VK}{o:Oper}{d:Nat}
def aS6{b:Md}{n:Nat}{ops:List Oper}{K:St->Prop}:∀(l:List Oper) (σ:St),aY0 T P b n ops l σ.env σ.bx σ.ar K->Run T P b n ops l σ K:=by
 intro l;induction l with
 |nil=>intro σ h;exact h
 |cons o r g=>
  intro σ h;have f:bH0 T P b n ops o (aY0 T P b n ops r) σ.env σ.bx σ.ar K:=h;exact(aX6 f).mono (λ_ _ _ c=>aR8 c) (λe c=>g e c)
def aK7{b:Type}{l m:List b}{x:b}:x∈appR l m↔x∈l\/x∈m:=by rw[bT,Pv]
def wpIn_loop_ghost{F:Fence}{n:Nat}{Q:Exit->Act->World->Prop}{c:Code}(I:Nat->Act->World->Prop)(b:Nat)(i:I b a w)
 (round:∀h a w,I h a w->c.wpIn F n P (Exit.then (λj w'=>∃m,m<h/\I m j w') Q) a w):(Code.loop c).wpIn F n P Q a w:=by
 refine wpIn_loop (λa w=>∃n,I n a w) (λa w=>leastOf (λn=>I n a w)) ⟨b,i⟩ ?_;intro a w p;refine QV (round _ a w (leastOf_spec p).1) ?_;intro e j w' g;cases e with
 |normal=>
  obtain⟨h,k,f⟩:=g;exact show(∃n,I n j w')/\leastOf (λn=>I n j w')<leastOf (λn=>I n a w)from⟨⟨h,f⟩,Nat.lt_of_le_of_lt ((leastOf_spec ⟨h,f⟩).2 h f) k⟩
 |exit id=>exact g
 |goto l=>exact g
 |ret=>exact g
 |panic q=>exact g
 |outgrown=>exact g
def oK{b:Frame}{k:List Item}{cs:List Frame}{c:Code}:step P (lone (b.atR a (.code (.scope c)::k)) cs w)= .next (lone (b.atR a (.code c:: .inScope c::k)) cs w):=
 step_lone_go (by simp[stepG,stepG.exec,Frame.atR])
def bN3{b:Frame}{k:List Item}{cs:List Frame}{c:Code}:step P (lone (b.atR a (.inScope c::k)) cs w)= .next (lone (b.atR a k) cs w):=
 step_lone_go (by simp[stepG,stepG.exec,Frame.atR])
def bE2{F:Fence}{n:Nat}{c:Code}{Q:Exit->Act->World->Prop}(h:c.wpIn F n P (λe a w=>match e with| .goto _=>False|e=>Q e a w) a w):(Code.scope c).wpIn F n P Q a w:=by
 intro b k cs v r t;have m:(lone (b.atR a (.code (.scope c)::k)) cs w).fenced P F:=fenced_calm r t rfl;obtain⟨e,g,i,p,f⟩:=h b (.inScope c::k) cs v r t;cases e with
 |normal=>exact⟨.normal,g,i,p, .head m oK (StepsIn.trans f (.one (fenced_calm r t rfl) bN3))⟩
 |exit j=>
  have x:exitTo j (.inScope c::k)=exitTo j k:=by simp[exitTo]
  exact⟨.exit j,g,i,p,λA s=> .head m oK (f.1 A (by rw[x];exact s)),
   λu s=>let⟨q,y,z⟩:=f.2 u (by rw[x];exact s);⟨q,y, .head m oK z⟩⟩
 |goto l=>exact p.elim
 |ret=>exact⟨_,g,i,p, .of_steps (.one m oK) f⟩
 |panic B=>exact⟨_,g,i,p, .of_steps (.one m oK) f⟩
 |outgrown=>exact⟨_,g,i,p, .of_steps (.one m oK) f⟩
def cZ2(hT:bP T P)(hm:P.follows .mixedOrders=true){n:Nat}(c:Code):∀(Φ:Fr) (k:Option Nat) (σ:St) (a:Act) (w:World) (G:Gh) (Q:Exit->St->Prop),(k=none\/iC c=true)->Φ.n=n->(∀d∈dstsOf c,Φ.keep d=none)->Inv T Φ σ a w G->nH T P n c σ Q->c.wpIn (FW k) 0 P (Lift T Φ Q) a w:=by
 induction c with
 |skip=>intro Φ k σ a w G Q _ _ _ inv h;exact wpIn_skip (Lift.of h inv)
 |region id ops ae=>
  intro Φ k σ a w G Q _ v u inv h;subst v;have aa:∀o∈ops.toList,∀d,o.dst=some d->Φ.keep d=none:=λo ho d J=>u d (dP9 ho J);obtain⟨env,bx,ar⟩:=σ;cases ae with
  |false=>
   have r:aY0 T P .free Φ.n ops.toList ops.toList env bx ar (Q .normal):=h;have hr:=aS6 ops.toList ⟨env,bx,ar⟩ r;exact wpIn_region_list (eB0 hT rfl k (λq I w' G' u j=>Lift.of u j) ops.toList _ a w G aa inv hr)
  |true=>
   have r:aC9 T env ops.toList (λhv=>aY0 T P (.drawn hv) Φ.n ops.toList ops.toList env bx ar (Q .normal)) (treeVC T P Φ.n ops.toList ops.toList.length [] env bx ar (Q .normal)):=h;replace r:=r.out;rcases r with⟨cl,hv,h0,Y,Z⟩|Z;have hr:=aS6 ops.toList ⟨env,bx,ar⟩ Z;exact bC4 hT k hm rfl aa Y (dC3 inv.wfE h0) (λq I w' G' u j=>Lift.of u j) id inv hr;exact tree_sound hT k hm rfl aa (λq I w' G' u j=>Lift.of u j) id inv Z
 |seq x y F H=>
  intro Φ k σ a w G Q t v u inv h;have r:dG2 T (nH T P n x) (nH T P n y) σ Q:=h;replace r:=r.out;have M:∀d∈dstsOf x,Φ.keep d=none:=λd J=>u d (aK7.2 (.inl J));have N:∀d∈dstsOf y,Φ.keep d=none:=λd J=>u d (aK7.2 (.inr J));have S:k=none\/iC x=true:=t.imp id λhh=>JG;have U:k=none\/iC y=true:=t.imp id λhh=>JG;refine wpIn_seq ?_;rcases r with Y|⟨C,Y,Z⟩;refine QV (F Φ k σ a w G _ S v M inv Y) ?_;rintro e I w' ⟨A,q,G',B,j,mk⟩;cases e with
  |normal=>exact QV (H (Fr.at {Φ with ds:=A++Φ.ds} w' G') k q I w' G' Q U v N j.up B) (λe a w h=>Lift.back j mk h)
  |_=>exact⟨A,q,G',B,j,mk⟩
  refine QV (F Φ k σ a w G _ S v M inv Y) ?_;rintro e I w' ⟨A,q,G',B,j,mk⟩;cases e with
  |normal=>
   obtain⟨p,ab,af⟩:=B;obtain⟨G2,z⟩:=ab.out j.up;have E:=j.down j.aF0 z rfl rfl rfl rfl rfl rfl rfl rfl
   have ac:Marks Φ.w0 w' G2 A:=by
    obtain⟨Ds,e1,e2,e3⟩:=mk;refine⟨Ds,e1,e2,λD hD=>?_⟩;obtain⟨q1,q2,q3⟩:=e3 D hD;exact⟨q1,q2,(z.mP (w0:=w') (G0:=G') rfl rfl rfl (PS.1 q2).1 q3).2⟩
   exact QV (H (Fr.at {Φ with ds:=A++Φ.ds} w' G2) k _ I w' G2 Q U v N E.up (Z p af)) (λe a w h=>Lift.back E ac h)
  |_=>exact⟨A,q,G',B,j,mk⟩
 |cond c x y F H=>
  intro Φ k σ a w G Q t v u inv h
  have r:(match σ.ev c with
   | .lit (.bool b)=>branch b (nH T P n x σ Q) (nH T P n y σ Q)
   |_=>False):=h
  have M:∀d∈dstsOf x,Φ.keep d=none:=λd J=>u d (aK7.2 (.inl J));have N:∀d∈dstsOf y,Φ.keep d=none:=λd J=>u d (aK7.2 (.inr J));have S:k=none\/iC x=true:=t.imp id λhh=>JG;have U:k=none\/iC y=true:=t.imp id λhh=>JG;have he:=(inv.ev c).1;split at r;rename_i b hb;rw[hb]at he;cases b with
  |true=>exact wpIn_cond_true he.bH (F Φ k σ a w G Q S v M inv r)
  |false=>exact wpIn_cond_false he.bH (H Φ k σ a w G Q U v N inv r)
  exact r.elim
 |block id c ih=>
  intro Φ k σ a w G Q t v u inv h;refine wpIn_block (QV (ih Φ k σ a w G _ t v u inv h) ?_);rintro e I w' ⟨A,q,G',B,j,mk⟩;cases e with
  |exit i=>
   have O:cond (Nat.beq i id) (Q .normal q) (Q (.exit i) q):=B;show Exit.inBlock id (Lift T Φ Q) (.exit i) I w';by_cases hi:i=id;subst hi;have hb:Nat.beq i i=true:=SG i;rw[hb]at O;simp only[Exit.inBlock,QM];exact⟨A,q,G',O,j,mk⟩;have hb:Nat.beq i id=false:=by rw[<-QS,QJ];exact hi
   rw[hb]at O;simp only[Exit.inBlock,Ph hi];exact⟨A,q,G',O,j,mk⟩
  |_=>exact⟨A,q,G',B,j,mk⟩
 |loop c ih=>
  intro Φ k σ a w G Q t v u inv h;have r:bI0 T (nH T P n c) σ Q:=h;replace r:=r.out;obtain⟨L,⟨p0,ag,ak⟩,R⟩:=r;obtain⟨G0,inv0⟩:=ag.out inv;refine wpIn_loop_ghost (λn a w=>∃p A G,L.m p=n/\L.inv p/\Inv T {Φ with ds:=A++Φ.ds} (L.st p) a w G/\Marks Φ.w0 w G A) (L.m p0) ⟨p0,[],G0,rfl,ak,inv0,Marks.nil _ _ _⟩ ?_;rintro n' I w' ⟨p,A,G1,rfl,hi,X,mk⟩;refine QV (ih (Fr.at {Φ with ds:=A++Φ.ds} w' G1) k _ I w' G1 _ t v u X.up (R p hi)) ?_;rintro e a2 w2 hL;obtain⟨ad,q,G',B,j,ai⟩:=Lift.back X mk hL;cases e with
  |normal=>
   obtain⟨p',ab,aj,al⟩:=B;obtain⟨G2,z⟩:=ab.out j.up;have E:=j.down j.aF0 z rfl rfl rfl rfl rfl rfl rfl rfl
   have ac:Marks Φ.w0 w2 G2 ad:=by
    obtain⟨Ds,e1,e2,e3⟩:=ai;refine⟨Ds,e1,e2,λD hD=>?_⟩;obtain⟨q1,q2,q3⟩:=e3 D hD;exact⟨q1,q2,(z.mP (w0:=w2) (G0:=G') rfl rfl rfl (PS.1 q2).1 q3).2⟩
   exact⟨L.m p',al,p',ad,G2,rfl,aj,E,ac⟩
  |_=>exact⟨ad,q,G',B,j,ai⟩
 |rangeFunc f ps x y F H=>
  intro Φ k σ a w G Q t v u inv h
  have ah:k=none:=by
   rcases t with h|h;exact h;cases(h:false=true)
  subst ah
  have r:(match σ.ev f with
   | .fn g W=>cond (allR V.still W) (cond (iC x) (cond (iC y) (cond (allR (λp=>Nat.blt p n) ps.toList) (aO0 T P f g W ps.toList (appR ps.toList (appR (dstsOf x) (dstsOf y))) (nH T P n x) (nH T P n y) σ Q) False) False) False) False
   |_=>False):=h
  split at r;obtain⟨Y,r⟩:=aT r;obtain⟨Z,r⟩:=aT r;obtain⟨h3,r⟩:=aT r;obtain⟨h4,r⟩:=aT r;rw[bT,bT]at r;refine cI6 v (λΦ k σ a w G Q=>F Φ k σ a w G Q (.inr Z)) (λΦ k σ a w G Q=>H Φ k σ a w G Q (.inr h3)) (λp hp=>blt (dY.1 h4 p hp)) ?_ Y inv r;intro d J;refine u d ?_;show d∈appR ps.toList (appR (dstsOf x) (dstsOf y));rw[bT,bT];exact J;exact r.elim
 |exit id=>intro Φ k σ a w G Q _ _ _ inv h;exact wpIn_exit (Lift.of h inv)
 |scope c ih=>
  intro Φ k σ a w G Q t v u inv h;refine bE2 (QV (ih Φ k σ a w G _ t v u inv h) ?_);rintro e I w' ⟨A,q,G',B,j,mk⟩;cases e with
  |goto l=>exact B.elim
  |_=>exact⟨A,q,G',B,j,mk⟩
 |label l=>intro Φ k σ a w G Q _ _ _ inv h;exact wpIn_label (Lift.of h inv)
 |goto l=>intro Φ k σ a w G Q _ _ _ inv h;exact(h:False).elim
 |ret=>intro Φ k σ a w G Q _ _ _ inv h;exact wpIn_ret (Lift.of h inv)
 |refuse s=>intro Φ k σ a w G Q _ _ _ inv h;exact(h:False).elim
def cL7{f:Func}{R:Ending->World->Prop}{u:FrameMode}(m:u≠ .run){tmps:Array Value}:∀(c:List Deferred) (w:World),Inv T Φ σ a w G->Φ.ds=[]->a.tmps=tmps->Marks Φ.w0 w G c->(∀w',Inv T Φ σ a w' G->LeavesInM (FW none) 0 P f tmps R [] u w')->LeavesInM (FW none) 0 P f tmps R c u w:=by
 intro c;induction c with
 |nil=>intro w inv _ _ _ h;exact h w inv
 |cons d c n=>
  intro w inv j l mk h;obtain⟨e,b,g,i⟩:=mk;cases e with
  |nil=>cases b
  |cons D e=>
   rw[PW]at b;injection b with e0 b;subst e0;obtain⟨q,r,s⟩:=i D Af;refine⟨m, .inl ⟨D,_,rfl,run_takeDeferred r,?_⟩⟩;refine n _ (inv.quiet (aF9 s q)) j l ⟨e,b,(List.nodup_cons.1 g).2,λt k=>?_⟩ h
   grind [Qw,World.putObj_heap_other,List.nodup_cons]
def wM(z:bP T P)(D:P.follows .mixedOrders=true){f:FuncId}{k:Func}{c:Code}{args:Array Value}{Q:Exit->St->Prop}{R:Ending->World->Prop}(C:P.funcs[f]? =some k)(A:k.body=some c)(q:Φ.ds=[])(t:Φ.keep=λ_=>none)(E:Φ.n=k.ntmps)
 (inv:Inv T Φ σ {tmps:=args++Array.replicate (k.ntmps-args.size) undef,defers:=[]} w G)(h:nH T P k.ntmps c σ Q)
 (l:∀(e:Exit) (b:St) (j:Act) (w':World) (G':Gh),Q e b->Inv T Φ b j w' G'->(e= .normal\/e= .ret)/\∃v,(results k j.tmps).run P w'= .ok v w'/\R (.returned v) w'):Calls P f args w R:=by
 refine bD0.1 (callsIn_of_wp_marks (F:=FW none) C A trivial (QV (cZ2 z D c Φ none σ _ w G Q (.inl rfl) E (λd _=>by rw[t]) inv h) ?_) rfl);rintro e j w' ⟨y,b,G',u,g,mk⟩;have i:Inv T Φ b {j with defers:=[]} w' G':=g.aQ1 [] rfl rfl rfl rfl rfl rfl q (λs v x=>by rw[t]at x;cases x)
 have r:j.defers=y:=by
  have:=g.nd;rw[q]at this;simpa using this
 obtain⟨B,_⟩:=l e b _ w' G' u i
 have done:LeavesInM (FW none) 0 P k j.tmps R j.defers .returning w':=by
  rw[r];refine cL7 Af y w' i q rfl mk λH m=>?_;exact(l e b _ H G' u m).2
 rcases B with rfl|rfl
 ·exact done
 ·exact done
def gG2{w:World}{G:Gh}{v:Value}{b:List V}(h:∀q,b≠ .bot::q):Rr T w G v (.tup b)=∃vs:Array Value,v= .tuple vs/\vs.size=b.length/\∀(j:Nat) u y,vs[j]? =some u->b[j]? =some y->Rb T w G j u y:=by
 simp_all [Rr]
def gB6{ar:Nat->Option AE}{ys xs:List V}(h:iQ T ar ys xs):∀q,ys≠ .bot::q:=by
 rintro q rfl;cases xs with
 |nil=>exact h.elim
 |cons x xr=>exact(h.1:False)
def cF9(inv:Inv T Φ σ a w G){xs ys:List V}(e:iQ T σ.ar ys xs)(l:iR xs ys=true)(vs:List Value)(A:∀(i:Nat) v x,vs[i]? =some v->xs[i]? =some x->Rv w G v x/\x.ok σ.hasB σ.hasA):
 ∃Gc:Gh,(∀(j:Nat) v y,vs[j]? =some v->ys[j]? =some y->Rb T w Gc j v y)/\(∀b,G.O b= .fz->Gc.O b= .fz)/\(∀b i,Gc.O b≠ .bx i)/\(∀b,Gc.O b≠ .ext->(G.O b= .fz/\Gc.O b= .fz)\/∃k,G.O b= .ar k):=by
 obtain⟨hlen,I⟩:=qM e;simp only[iR,Px]at l;have L:=uU.1 l.1
 have s:∀k∈bD ys xs,k∉bK ys xs:=λk hk Q=>by
  grind [dY,pM]
 generalize z:bD ys xs=ok at*;generalize N:bK ys xs=D at*;let f:Nat->Nat:=λk=> @dite _ (∃j,zW xs ys j k) (Classical.propDecidable _) (λh=>h.choose) (λ_=>0)
 have n:∀ {j k},zW xs ys j k->f k=j:=by
  intro j k M;have H:∃j,zW xs ys j k:=⟨j,M⟩;grind [aK3]
 let Gc:Gh:={G with O:=λb=>match G.O b with| .fz=> .fz| .ar k=>if k∈D then .fz else if k∈ok then .ar (f k)else .ext|_=> .ext};have c:∀b,G.O b= .fz->Gc.O b= .fz:=λb hb=>BG;have B:∀b i,G.O b= .bx i->Gc.O b= .ext:=λb i hb=>BG;have r:∀b,G.O b= .ext->Gc.O b= .ext:=λb hb=>BG;have C:∀b k,G.O b= .ar k->k∈D->Gc.O b= .fz:=λb k hb hk=>Dj
 have g:∀b k,G.O b= .ar k->k∈ok->Gc.O b= .ar (f k):=λb k hb hk=>by
  grind
 have t:Keep w w G Gc:=⟨c,λ_ _=>rfl⟩;refine⟨Gc,?_,c,?_,?_⟩
 ·intro j v y hv hy
  have J:j<xs.length:=Es;have q:xs[j]? =some xs[j] :=Pj J;obtain⟨E,F⟩:=A j v _ hv q;refine aJ2 inv t (I j _ y q hy) E F (λu k hk b hb=>?_) (λu k hk b hb=>?_)
  ·grind [nP]
  ·have m:k∈ok:=by rw[<-z];exact oZ.2 ⟨j,_,y,q,hy,u,hk⟩
   rw[g b k hb m,n ⟨_,y,q,hy,u,hk⟩]
 ·grind
 ·grind
def aE3(a:Act):ResultVar->Sem Value
 | .tmp t=>pure (a.tmps.getD t undef)
 | .cell b t=>do loadVar t (<-asAddr (a.tmps.getD b undef))
def aQ5(y:bP T P)(inv:Inv T Φ σ a w G):∀(g:List ResultVar) (K:List V->Prop),aH3 T σ g K->
 ∃(xs:List V) (vs:List Value),K xs/\vs.length=xs.length/\vs.length=g.length/\(∀(i:Nat) v x,vs[i]? =some v->xs[i]? =some x->Rv w G v x/\x.ok σ.hasB σ.hasA)/\
  (g.mapM (aE3 a)).run P w= .ok vs w:=by
 intro g;induction g with
 |nil=>intro K h;exact⟨[],[],h,rfl,rfl,λi v x hv=>by simp at hv,Af⟩
 |cons x r C=>
  intro K h
  have f:∀(v:V) (u:Value),Rv w G u v->v.ok σ.hasB σ.hasA->(aE3 a x).run P w= .ok u w->(aH3 T σ r λvs=>K (v::vs))->
   ∃(xs:List V) (vs:List Value),K xs/\vs.length=xs.length/\vs.length=(x::r).length/\(∀(i:Nat) v x,vs[i]? =some v->xs[i]? =some x->Rv w G v x/\x.ok σ.hasB σ.hasA)/\
    ((x::r).mapM (aE3 a)).run P w= .ok vs w:=by
   intro v u hv F c e;obtain⟨xs,vs,q,h2,s,D,E⟩:=C _ e;refine⟨v::xs,u::vs,q,Gf,by simp[s],?_,?_⟩
   ·grind
   ·simp_all
  cases x with
  |tmp t=>
   have j:force (σ.env t) (λv=>aH3 T σ r λvs=>K (v::vs)):=h;rw[force_eq]at j;exact f _ _ (inv.env t) (inv.wfE t) (by simp[aE3]) j
  |cell b t=>
   have j:cond (Nat.blt t (T.n t)) (pW (T.row t) σ (σ.env b) λv _=>aH3 T σ r λvs=>K (v::vs)) False:=h;obtain⟨B,h2⟩:=aT j;obtain⟨m,v',v,z,c,A,hv,l⟩:=cG1 y inv t (.tmp b) (blt B) h2;have k:a.tmps.getD b undef= .pointer (some m):=z;exact f v v' hv l (by simp only[aE3,k,asAddr,Qd,Qz,P9,c]) A
def aI1(vs:List Value):Value:=match vs with| [v] =>v|vs=> .tuple vs.toArray
def aD1{b:Func}{vs:List Value}(h:(b.results.toList.mapM (aE3 a)).run P w= .ok vs w):
 (results b a.tmps).run P w= .ok (aI1 vs) w:=by
 have c:(b.results.mapM (aE3 a)).run P w= .ok vs.toArray w:=by
  simp_all [Array.mapM_eq_mapM_toList,P9]
 have e:(results b a.tmps)=(do let vs<-b.results.mapM (aE3 a);pure (if h:vs.size=1 then vs[0]else .tuple vs)):=by
  unfold results;congr 1
 rw[e];simp only[Qd,c,P9,Qz];congr 1;match vs with
 | [] =>rfl
 | [v] =>rfl
 |v::u::r=>simp;rfl
theorem lY:∀(ys:List V) (j s:Nat),pF ys j s=if j<=s then(match ys[s-j]? with|some y=>cond (linear y) (.arr s 0) y|none=> .tup [])else .tup [] :=by
 intro ys;induction ys with
 |nil=>intro j s;show V.tup [] =_;split<;>simp
 |cons y r ih=>
  intro j s;show cond (Nat.beq s j) (cond (linear y) (.arr j 0) y) (pF r (j+1) s)=_;by_cases e:s=j;simp_all;exact JS
theorem gY:∀(ys:List V) (j s:Nat),jK ys j s=if j<=s then(match ys[s-j]? with|some (.own e l)=>some ⟨0, .own,e,l⟩|some (.ap e l)=>some ⟨0, .ap,e,l⟩|_=>none)else none:=by
 intro ys;induction ys with
 |nil=>intro j s;show none=_;split<;>simp
 |cons y r ih=>
  intro j s;show cond (Nat.beq s j) (match y with| .own e l=>some (⟨0, .own,e,l⟩:AE)| .ap e l=>some ⟨0, .ap,e,l⟩|_=>none) (jK r (j+1) s)=_;by_cases e:s=j;subst e;rw[show Nat.beq s s=true from SG s];grind;exact JS
def eH1(M:bP T P)(hm:P.follows .mixedOrders=true){f:FuncId}{fn:Func}(hf:P.funcs[f]? =some fn)(Q:callable P f=true){ys:List V}{r:V}(hn:ys.length<=fn.ntmps)(h:fnVC T P fn ys r):Spec T P f ys r:=by
 refine⟨Q,?_⟩;intro w G cs hcs L N F ab;unfold fnVC at h;split at h
 ·rename_i c hb
  let Φ:Fr:=⟨w,λb=>∃j,G.O b= .ar j,λb=>G.O b= .fz,fn.ntmps,λ_=>none,λ_=>none,[],λ_=>none⟩;let G0:Gh:={G with av:=λk _=>cs.getD k undef};have hkeep:Keep w w G G0:=⟨λ_ h=>h,λ_ _=>rfl⟩
  have hrb:∀(j:Nat) y,ys[j]? =some y->Rb T w G j (cs.getD j undef) y:=by
   intro j y hy;have hj:j<cs.size:=BB;exact F j _ y GH hy
  have ac:∀ {j u e l},gJ T w G j u e l->u.oneCell'=true:=by
   intro j u e l h;exact MO
  have aa:∀ {u l},Rv w G u (.cap l)->u.oneCell'=true:=by
   intro u l h;exact Nc
  have inv:Inv T Φ (uD ys) {tmps:=cs++Array.replicate (fn.ntmps-cs.size) undef,defers:=[]} w G0:=by
   constructor;rfl;intro s v h;cases h;grind;intro s;exact MQ;intro s;exact Np;intro i cs' hi;exact LV;intro i cs' hi;exact LV;intro k en hen;exact LX;intro k en hen;exact LY;exact L;intro b i hb;exact absurd hb (N b i);intro b k hb;exact .inr ⟨k,hb⟩;intro b hb;exact .inl hb;intro b hb;exact hb;intro b _ _;rfl;exact Po _;rfl;rfl;rfl;intro j v h;cases h;grind;intro i b h;cases h
  refine wM M hm hf hb (Φ:=Φ) rfl rfl rfl inv h ?_
  have fin:∀(e:Exit) (σ:St) (a':Act) (w':World) (G':Gh),dF3 T σ fn.results.toList r->Inv T Φ σ a' w' G'->∃v,(results fn a'.tmps).run P w'= .ok v w'/\∃v0 g,(Ending.returned v= .returned v0)/\Rr T w' g v0 r/\
   (∀b,G.O b= .fz->g.O b= .fz)/\(∀b,g.O b≠ .ext->b<w'.heap.size)/\(∀b i,g.O b≠ .bx i)/\
   (∀b,g.O b≠ .ext->(G.O b= .fz/\g.O b= .fz)\/w.heap.size<=b\/∃j,G.O b= .ar j)/\
   (∀b,b<w.heap.size->(∀j,G.O b≠ .ar j)->w'.heap[b]? =w.heap[b]?)/\
   w.heap.size<=w'.heap.size/\w'.os=w.os/\w'.tape=w.tape/\w'.output=w.output:=by
   intro e σ a' w' G' m inv';rcases m.out with m|m;rotate_left
   ·obtain⟨xs,vs,H,z,R,I,B⟩:=aQ5 M inv' _ _ m
    have A:=aD1 B;refine⟨aI1 vs,A,aI1 vs,?_⟩
    have frame:(∀b,b<w.heap.size->(∀j,G.O b≠ .ar j)->w'.heap[b]? =w.heap[b]?)/\w.heap.size<=w'.heap.size/\w'.os=w.os/\w'.tape=w.tape/\w'.output=w.output:=
     ⟨λb hb hj=>inv'.frame b hb (λ⟨j,h⟩=>hj j h),inv'.size,inv'.os,inv'.tape,inv'.output⟩
    split at H
    ·obtain⟨n,cs,rfl,rfl,C,J⟩:=H
     obtain⟨v,rfl⟩:∃v,vs=[v] :=RD.1 z;obtain⟨X,Y⟩:=I 0 v (.agg cs) rfl rfl
     obtain⟨E,rfl,hl,ho,Q⟩:∃E:Array Value,v= .agg E/\E.size=cs.length/\(∀c∈E,c.oneCell'=true)/\∀(i:Nat) c x,E[i]? =some c->cs[i]? =some x->Rv w' G' c x:=by
      cases X<;>grind
     have W:=aH.1 (by simpa only[V.ok]using Y:V.okL σ.hasB σ.hasA cs);obtain⟨g,q1,q2,q3,q4⟩:=cF9 inv' C J E.toList (λi u x hu hx=>⟨Q i u x AY hx,W x (Pn hx)⟩);have D:=(qM C).1;refine⟨g,rfl,⟨E,rfl,Aa,ho,λj u y hu hy=>q1 j u y AY hy⟩,λb hb=>q2 b (inv'.F0 b hb),λb hb=>inv'.tag b ?_,q3,λb hb=>?_,frame⟩
     ·grind
     ·exact IG
    ·exact H.elim
   obtain⟨xs,vs,H,z,R,I,B⟩:=aQ5 M inv' _ _ m;have A:=aD1 B;refine⟨aI1 vs,A,aI1 vs,?_⟩
   have t:∀(n:List V),iQ T σ.ar n xs->iR xs n=true->∃g:Gh,(∀(j:Nat) v y,vs[j]? =some v->n[j]? =some y->Rb T w' g j v y)/\
    (∀b,G.O b= .fz->g.O b= .fz)/\(∀b,g.O b≠ .ext->b<w'.heap.size)/\(∀b i,g.O b≠ .bx i)/\
    (∀b,g.O b≠ .ext->(G.O b= .fz/\g.O b= .fz)\/w.heap.size<=b\/∃j,G.O b= .ar j):=by
    intro n h1 h2;obtain⟨Gc,q1,q2,q3,q4⟩:=cF9 inv' h1 h2 vs I;refine⟨Gc,q1,λb hb=>q2 b (inv'.F0 b hb),λb hb=>inv'.tag b ?_,q3,λb hb=>?_⟩
    ·grind
    ·exact IG
   have frame:(∀b,b<w.heap.size->(∀j,G.O b≠ .ar j)->w'.heap[b]? =w.heap[b]?)/\w.heap.size<=w'.heap.size/\w'.os=w.os/\w'.tape=w.tape/\w'.output=w.output:=
    ⟨λb hb hj=>inv'.frame b hb (λ⟨j,h⟩=>hj j h),inv'.size,inv'.os,inv'.tape,inv'.output⟩
   split at H
   ·rename_i x
    obtain⟨C,J,g3⟩:=H;obtain⟨g,q1,q2,q3,q4,Z⟩:=t [r] C J;match vs,z with
    | [v],_=>
      refine⟨g,rfl,?_,q2,q3,q4,Z,frame⟩;exact NM
   ·rename_i U
    obtain⟨n,rfl,C,J⟩:=H;obtain⟨g,q1,q2,q3,q4,Z⟩:=t n C J;have D:=(qM C).1;refine⟨g,rfl,?_,q2,q3,q4,Z,frame⟩;have S:∀q,n≠ .bot::q:=gB6 C;rw[gG2 S];refine⟨vs.toArray,?_,by simp[z,D],λj u y hu hy=>q1 j u y AY hy⟩;match vs,xs,z with
    | [],_,_=>rfl
    | [v],[x],_=>exact absurd rfl (U x)
    |v::u::rr,_,_=>rfl
  intro e σ a' w' G' hq inv';exact Lr
 exact h.elim
def cE4(hT:bP T P)(hm:P.follows .mixedOrders=true){f:FuncId}{fn:Func}(hf:P.funcs[f]? =some fn)(hc:callable P f=true){ys:List V}{r:V}(hn:ys.length<=fn.ntmps){g:Nat}{B:TypeId}{lo li:List V}(W:g<8)(aa:ys[g]? =some (.own B li))(h:fnIO T P fn ys r g B lo):bE5 T P f ys r g B lo:=by
 refine⟨hc,?_⟩;intro w G cs hcs M U D ac;unfold fnIO at h;split at h;rename_i c hb;let Φ:Fr:=⟨w,λb=>∃j,G.O b= .ar j,λb=>G.O b= .fz,fn.ntmps,λj=>if j=g then some (cs.getD g undef)else none,λ_=>none,[],λ_=>none⟩;let G0:Gh:={G with av:=λk _=>cs.getD k undef};have hkeep:Keep w w G G0:=⟨λ_ h=>h,λ_ _=>rfl⟩
 have hrb:∀(j:Nat) y,ys[j]? =some y->Rb T w G j (cs.getD j undef) y:=by
  intro j y hy;have hj:j<cs.size:=BB;exact D j _ y GH hy
 have Q:∀ {j u e l},gJ T w G j u e l->u.oneCell'=true:=by
  intro j u e l h;exact MO
 have ab:∀ {u l},Rv w G u (.cap l)->u.oneCell'=true:=by
  intro u l h;exact Nc
 have inv:Inv T Φ (uD ys) {tmps:=cs++Array.replicate (fn.ntmps-cs.size) undef,defers:=[]} w G0:=by
  constructor;rfl;intro s v h;cases h;grind;intro s;exact MQ;intro s;exact Np;intro i cs' hi;exact LV;intro i cs' hi;exact LV;intro k en hen;exact LX;intro k en hen;exact LY;exact M;intro b i hb;exact absurd hb (U b i);intro b k hb;exact .inr ⟨k,hb⟩;intro b hb;exact .inl hb;intro b hb;exact hb;intro b _ _;rfl;exact Po _;rfl;rfl;rfl;intro j v h;have h':(if j=g then some (cs.getD g undef)else none)=some v:=h;split at h';rename_i e;subst e;cases h';refine⟨rfl,W,?_⟩;show∃en,jK ys 0 j=some en;rw[gY];simp_all;cases h';grind;intro i b h;cases h
 refine wM hT hm hf hb (Φ:=Φ) rfl rfl rfl inv h ?_
 have fin:∀(e:Exit) (σ:St) (a':Act) (w':World) (G':Gh),dC6 T σ fn.results.toList r g B lo->Inv T Φ σ a' w' G'->∃v,(results fn a'.tmps).run P w'= .ok v w'/\∃v0 m,(Ending.returned v= .returned v0)/\(Rr T w' m v0 r/\IoX T g B lo cs w' m)/\
  (∀b,G.O b= .fz->m.O b= .fz)/\(∀b,m.O b≠ .ext->b<w'.heap.size)/\(∀b i,m.O b≠ .bx i)/\
  (∀b,m.O b≠ .ext->(G.O b= .fz/\m.O b= .fz)\/w.heap.size<=b\/∃j,G.O b= .ar j)/\
  (∀b,b<w.heap.size->(∀j,G.O b≠ .ar j)->w'.heap[b]? =w.heap[b]?)/\
  w.heap.size<=w'.heap.size/\w'.os=w.os/\w'.tape=w.tape/\w'.output=w.output:=by
  intro e σ a' w' G' A inv';replace A:=A.out;obtain⟨xs,vs,X,H,af,ah,L⟩:=aQ5 hT inv' _ _ A;have J:=aD1 L;refine⟨aI1 vs,J,aI1 vs,?_⟩;obtain⟨C,_,S,F⟩:=inv'.args g (cs.getD g undef) (by show(if g=g then some (cs.getD g undef)else none)=_;rw[Pm rfl])
  have I:(cs.getD g undef).oneCell'=true:=by
   have hr:=hrb g _ aa;exact Q hr.2.2
  have Y:Rv w' G' (cs.getD g undef) (.arr g 0)/\(V.arr g 0).ok σ.hasB σ.hasA:=by
   refine⟨?_,by simp only[V.ok];exact⟨S,F,P8 _⟩⟩;have:=Rv.arr (w:=w') (G:=G') g 0 (by rw[C];exact I);rw[C]at this;exact this
  have N:∀(i:Nat) v x,(vs++[cs.getD g undef])[i]? =some v->(xs++[V.arr g 0])[i]? =some x->Rv w' G' v x/\x.ok σ.hasB σ.hasA:=by
   intro i v x hv hx;rcases Qx i vs.length with hi|hi;grind
   have ae:i=vs.length:=by
    grind
   simp_all
  have t:∀(n:List V),iQ T σ.ar (n++[.own B lo]) (xs++[.arr g 0])->iR (xs++[.arr g 0]) (n++[.own B lo])=true->∃m:Gh,(∀(j:Nat) v y,vs[j]? =some v->n[j]? =some y->Rb T w' m j v y)/\IoX T g B lo cs w' m/\
   (∀b,G.O b= .fz->m.O b= .fz)/\(∀b,m.O b≠ .ext->b<w'.heap.size)/\(∀b i,m.O b≠ .bx i)/\
   (∀b,m.O b≠ .ext->(G.O b= .fz/\m.O b= .fz)\/w.heap.size<=b\/∃j,G.O b= .ar j):=by
   intro n h1 h2;obtain⟨Gc,q1,q2,q3,q4⟩:=cF9 inv' h1 h2 (vs++[cs.getD g undef]) N;have z:=(qM h1).1;simp only[OY,PE,SE]at z;refine⟨Gc,λj v y hv hy=>?_,?_,λb hb=>q2 b (inv'.F0 b hb),λb hb=>inv'.tag b ?_,q3,λb hb=>?_⟩
   ·grind
   ·have hq:=q1 vs.length (cs.getD g undef) (.own B lo) Af (by rw[List.getElem?_append_right (by omega)];rw[show vs.length-n.length=0 by omega];rfl)
    exact⟨hq.2.1,_,hq.2.2⟩
   ·grind
   ·exact IG
  have frame:(∀b,b<w.heap.size->(∀j,G.O b≠ .ar j)->w'.heap[b]? =w.heap[b]?)/\w.heap.size<=w'.heap.size/\w'.os=w.os/\w'.tape=w.tape/\w'.output=w.output:=
   ⟨λb hb hj=>inv'.frame b hb (λ⟨j,h⟩=>hj j h),inv'.size,inv'.os,inv'.tape,inv'.output⟩
  split at X
  ·rename_i x
   obtain⟨E,R,_,g3⟩:=X;obtain⟨m,q1,q0,q2,q3,q4,q5⟩:=t [r] E R;obtain⟨v,rfl⟩:∃v,vs=[v] :=RD.1 H;refine⟨m,rfl,⟨?_,q0⟩,q2,q3,q4,q5,frame⟩;exact NM
  ·rename_i ag
   obtain⟨n,rfl,E,R⟩:=X;rw[bT,bT]at E R;obtain⟨m,q1,q0,q2,q3,q4,q5⟩:=t n E R;have z:=(qM E).1;simp only[OY,PE,SE]at z;refine⟨m,rfl,⟨?_,q0⟩,q2,q3,q4,q5,frame⟩;have Z:∀q,n≠ .bot::q:=λq e=>by subst e;exact gB6 E (q++[.own B lo]) rfl
   rw[gG2 Z];refine⟨vs.toArray,?_,by simp[H];omega,λj u y hu hy=>q1 j u y AY hy⟩;exact MW
 intro e σ a' w' G' hq inv';exact Lr;exact h.elim
end
def kW(b:List V):Nat->List V:=
 List.rec (motive:=λ_=>Nat->List V) (λ_=> []) (λy _ ih t=>cond (linear y) (.arr t 0) y::ih (t+1)) b
def bB3(bs:List (List V)):Nat->Nat->Option (List V):=
 List.rec (motive:=λ_=>Nat->Nat->Option (List V)) (λ_ _=>none) (λb _ ih j s=>cond (Nat.beq s (100000+j)) (some (kW b (100000*(j+1)))) (ih (j+1) s)) bs
def vT(bs:List (List V)):Nat->Nat->Option AE:=
 List.rec (motive:=λ_=>Nat->Nat->Option AE) (λ_ _=>none) (λb _ ih j s=>match jK b (100000*(j+1)) s with|some en=>some en|none=>ih (j+1) s) bs
def aG1(ys:List V)(bs:List (List V)):St:=⟨pF ys 0,bB3 bs 0,λs=>match jK ys 0 s with|some en=>some en|none=>vT bs 0 s⟩
def iP(bs:List (List V)):Nat->List Nat:=List.rec (motive:=λ_=>Nat->List Nat) (λ_=> []) (λ_ _ ih j=>(100000+j)::ih (j+1)) bs
def aT2(bx:Nat->Option (List V))(gs:Grp)(is:List Nat):Bool:=aE7 (ownG gs)&&allR (λk=> !memR k (mF gs)) (ownG gs)&&allR (λi=>isS (bx i)) is
structure retB(T:Tab)(σ:St)(rs:List ResultVar)(r:V)(bs:List (List V)):Prop where
 out:aH3 T σ rs λxs=>match xs with
  | [x] =>xM T σ.ar (iP bs 0) (([x],[r])::eU σ.bx bs (iP bs 0))/\aT2 σ.bx (([x],[r])::eU σ.bx bs (iP bs 0)) (iP bs 0)=true/\(∀rs,r≠ .tup rs)
  |xs=>∃ys,r= .tup ys/\xM T σ.ar (iP bs 0) ((xs,ys)::eU σ.bx bs (iP bs 0))/\aT2 σ.bx ((xs,ys)::eU σ.bx bs (iP bs 0)) (iP bs 0)=true
def jR(T:Tab)(P:Program)(fn:Func)(ys:List V)(bs:List (List V))(r:V)(bs':List (List V)):Prop:=
 match fn.body with
 |some c=>nH T P fn.ntmps c (aG1 ys bs) λe σ=>match e with
  | .normal=>retB T σ fn.results.toList r bs'
  | .ret=>retB T σ fn.results.toList r bs'
  |_=>False
 |none=>False
section
variable{T:Tab}{P:Program}{Φ:Fr}{σ:St}{a:Act}{w w':World}{G G':Gh}{K:VK}{o:Oper}{d:Nat}
theorem aH4:∀(b:List V) (t q:Nat),(kW b t)[q]? =(b[q]?).map λy=>cond (linear y) (.arr (t+q) 0) y:=by
 intro b;induction b with
 |nil=>intro t q;simp[kW]
 |cons y r c=>
  intro t q;have e:kW (y::r) t=cond (linear y) (.arr t 0) y::kW r (t+1):=rfl;grind
theorem aR6:∀(b:List V) (t:Nat),(kW b t).length=b.length:=by
 intro b;induction b with
 |nil=>intro t;rfl
 |cons y r c=>intro t;exact PN Nat.succ (c (t+1))
theorem bI8:∀(bs:List (List V)) (j s:Nat),bB3 bs j s=if 100000+j<=s then(bs[s- (100000+j)]?).map λb=>kW b (100000*(s-100000+1))else none:=by
 intro bs;induction bs with
 |nil=>intro j s;show none=_;split<;>simp
 |cons b r g=>
  intro j s;show cond (Nat.beq s (100000+j)) (some (kW b (100000*(j+1)))) (bB3 r (j+1) s)=_;by_cases e:s=100000+j;simp_all;have f:Nat.beq s (100000+j)=false:=by rw[<-QS,QJ];exact e
  rw[f,Qu,g];by_cases c:100000+(j+1)<=s;rw[Pm c,Pm Aa];rw[show s- (100000+j)=(s- (100000+(j+1)))+1 from Aa,Qi];rw[Ph c,Ph Aa]
def cC7{bs:List (List V)}(y:∀b∈bs,b.length<100000):∀ {j s:Nat} {en:AE},vT bs j s=some en->∃(i q:Nat) (b:List V),bs[i]? =some b/\s=100000*(j+i+1)+q/\q<b.length/\(b[q]? =some (.own en.ty en.l)/\en=⟨0, .own,en.ty,en.l⟩\/b[q]? =some (.ap en.ty en.l)/\en=⟨0, .ap,en.ty,en.l⟩):=by
 induction bs with
 |nil=>intro j s en h;cases h
 |cons b r A=>
  intro j s en h;have g:(match jK b (100000*(j+1)) s with|some en=>some en|none=>vT r (j+1) s)=some en:=h;split at g;rename_i n c;cases g;rw[gY]at c;split at c;rename_i z;split at c;rename_i e l f;cases c;exact⟨0,s-100000*(j+1),b,rfl,Aa,(Pg.1 f).1, .inl ⟨f,rfl⟩⟩;rename_i e l f;cases c;exact⟨0,s-100000*(j+1),b,rfl,Aa,(Pg.1 f).1, .inr ⟨f,rfl⟩⟩;cases c;cases c;obtain⟨i,q,m,t,u,v,x⟩:=A (λb k=>y b (by simp[k])) g;exact⟨i+1,q,m,t,by rw[u];omega,v,x⟩
def cU9{bs:List (List V)}:∀ {j i q:Nat} {b:List V} {y:V},bs[i]? =some b->b[q]? =some y->linear y=true->∃en,vT bs j (100000*(j+i+1)+q)=some en:=by
 induction bs with
 |nil=>intro j i q b y h;simp at h
 |cons c r k=>
  intro j i q b y hb e g;show∃en,(match jK c (100000*(j+1)) (100000*(j+i+1)+q)with|some en=>some en|none=>vT r (j+1) (100000*(j+i+1)+q))=some en;cases f:jK c (100000*(j+1)) (100000*(j+i+1)+q)with
  |some en=>exact⟨en,rfl⟩
  |none=>
   simp only;cases i with
   |zero=>
    simp at hb;subst hb;rw[gY,Pm Aa,show 100000*(j+0+1)+q-100000*(j+1)=q from Aa,e]at f;cases y<;>simp_all [linear]
   |succ i=>
    have:=k (j:=j+1) (i:=i) (q:=q) EP e g;grind
theorem bR0:∀(bs:List (List V)) (j i:Nat),(iP bs j)[i]? =if i<bs.length then some (100000+(j+i))else none:=by
 intro bs;induction bs with
 |nil=>intro j i;simp[iP]
 |cons b r c=>
  intro j i;have e:iP (b::r) j=(100000+j)::iP r (j+1):=rfl;grind
def cD7(bs:List (List V)):∀j,(iP bs j).length=bs.length:=by
 induction bs with
 |nil=>intro j;rfl
 |cons b r c=>intro j;exact PN Nat.succ (c (j+1))
def cT3{bx:Nat->Option (List V)}{b:Grp}{is:List Nat}(h:aT2 bx b is=true):(ownG b).Nodup/\(∀k∈ownG b,k∉mF b)/\∀i∈is,∃cs,bx i=some cs:=by
 unfold aT2 at h;simp only[Px]at h;obtain⟨⟨c,f⟩,e⟩:=h;refine⟨uU.1 c,λk g j=>?_,λi hi=>?_⟩;grind [dY,pM];have:=dY.1 e i hi;unfold isS at this;grind
set_option maxHeartbeats 1600000 in
def dR3(inv:Inv T Φ σ a w G){xs ys:List V}{bs:List (List V)}{gs:Grp}(z:gs=(xs,ys)::eU σ.bx bs (iP bs 0))(m:xM T σ.ar (iP bs 0) gs)(J:aT2 σ.bx gs (iP bs 0)=true)(vs:List Value)(aa:∀(i:Nat) v x,vs[i]? =some v->xs[i]? =some x->Rv w G v x/\x.ok σ.hasB σ.hasA):
 ∃Gc:Gh,(∀(j:Nat) v y,vs[j]? =some v->ys[j]? =some y->RbB T w Gc bs.length j v y)/\BxOk T w Gc bs/\Gc.β=G.β/\(∀b,G.O b= .fz->Gc.O b= .fz)/\
  (∀b,Gc.O b≠ .ext->(G.O b= .fz/\Gc.O b= .fz)\/(∃k,G.O b= .ar k)\/(∃i,i<bs.length/\b=G.β (100000+i)/\Gc.O b= .bx (100000+i)))/\xs.length=ys.length:=by
 obtain⟨X,E,B⟩:=cT3 J;have A:(iP bs 0).length=bs.length:=cD7 bs 0;have f:∀(j:Nat),j<bs.length->(iP bs 0)[j]? =some (100000+j):=λj H=>by rw[bR0,Pm H,QD]
 have U:gs[0]? =some (xs,ys):=by rw[z];rfl
 have W:∀(j:Nat) b,bs[j]? =some b->gs[j+1]? =some ((σ.bx (100000+j)).getD [],b):=by
  intro j b Q;rw[z,Qi];exact(aR3 A j _).2 ⟨_,b,f j (Pg.1 Q).1,Q,rfl⟩
 have n:∀(γ:Nat) (g:List V×List V),gs[γ]? =some g->g.1.length=g.2.length/\∀(q:Nat) x y,g.1[q]? =some x->g.2[q]? =some y->aP8 T σ.ar (iP bs 0) x y:=λγ g hg=>aB1 (aJ8 m γ g hg);generalize hok:ownG gs=ok at*;generalize Z:mF gs=S at*;let r:Nat->Nat:=λk=> @dite _ (∃t,∃γ q,t=100000*γ+q/\PosG gs γ q k) (Classical.propDecidable _) (λh=>h.choose) (λ_=>0)
 have hpos:∀ {γ q k},PosG gs γ q k->r k=100000*γ+q:=by
  intro γ q k hp;exact NZ
 let Gc:Gh:={G with O:=λb=>match G.O b with| .fz=> .fz| .ar k=>if k∈S then .fz else if k∈ok then .ar (r k)else .ext| .bx i=>if(100000<=i/\i<100000+bs.length)/\b=G.β i then .bx i else .ext| .ext=> .ext};have e:∀b,G.O b= .fz->Gc.O b= .fz:=λb hb=>BG
 have s:∀b i,G.O b= .bx i->(100000<=i/\i<100000+bs.length)/\b=G.β i->Gc.O b= .bx i:=λb i hb h=>by
  simp only[Gc];rw[hb];simp only;rw[Pm h]
 have N:∀b k,G.O b= .ar k->k∈S->Gc.O b= .fz:=λb k hb hk=>Dj
 have c_ok:∀b k,G.O b= .ar k->k∈ok->Gc.O b= .ar (r k):=λb k hb hk=>by
  grind
 have I:Keep w w G Gc:=⟨e,λ_ _=>rfl⟩
 have D:∀b i,nth (iP bs 0) (b-100000)=some i->100000<=b->Gc.β b=G.β i:=by
  grind [uN,bR0,Q5]
 have u:∀(γ q:Nat) (g:List V×List V) (v:Value) (x y:V),gs[γ]? =some g->g.1[q]? =some x->g.2[q]? =some y->Rv w G v x->x.ok σ.hasB σ.hasA->RbB T w Gc bs.length (100000*γ+q) v y:=by
  intro γ q g v x y hg hx hy hv L;rw[<-A];refine aW7 inv I D ((n γ g hg).2 q x y hx hy) hv L (λhl k hk b hb=>?_) (λhl k hk b hb=>?_);grind [aS8,nP];exact KN
 refine⟨Gc,?_,?_,rfl,e,?_,(n 0 _ U).1⟩
 ·grind
 ·intro j b hb
  have H:=(Pg.1 hb).1;obtain⟨cs,l⟩:=B (100000+j) (Pn (f j H));obtain⟨c,t,q2,M,q4⟩:=inv.box _ cs l;have hg:=W j b hb;rw[l]at hg;simp only[QT]at hg;have F:=(n _ _ hg).1;refine⟨s _ _ q4 ⟨⟨Aa,Aa⟩,rfl⟩,c,t,q2,?_,?_⟩
  ·have:=M.len
   simp only[PX]at this;rw[this];exact F
  ·intro q v y hv hy
   have Y:q<cs.length:=by
    grind
   have hx:cs[q]? =some cs[q] :=Pj Y;have C:c.toList[q]? =some v:=AZ;exact⟨M.one v (Pn C),u (j+1) q _ v _ y hg hx hy (M.rel q v _ C hx) (aH.1 (inv.wfB _ cs l) _ (Pn hx))⟩
 ·intro b hb
  cases R:G.O b with
  |ext=>exfalso;apply hb;simp only[Gc];rw[R]
  |fz=>exact .inl ⟨rfl,e b R⟩
  |ar k=>exact .inr (.inl ⟨k,rfl⟩)
  |bx i=>
   by_cases hi:(100000<=i/\i<100000+bs.length)/\b=G.β i;refine .inr (.inr ⟨i-100000,Aa,?_,?_⟩);grind;grind;grind
set_option maxHeartbeats 3200000 in
def dP3(hT:bP T P)(hm:P.follows .mixedOrders=true){f:FuncId}{fn:Func}(hf:P.funcs[f]? =some fn)(hc:callable P f=true){ys:List V}{bs:List (List V)}{r:V}{z:List (List V)}(hn:ys.length<=fn.ntmps)(a8:fn.ntmps<100000)(h8:bs.length<=8)(ae:∀b∈bs,b.length<100000)(hlens:z.map List.length=bs.map List.length)(h:jR T P fn ys bs r z):aU2 T P f ys bs r z:=by
 refine⟨hc,hlens,?_⟩;intro w G cs hcs ao hbx af aa a3;have ax:z.length=bs.length:=Dk;unfold jR at h;split at h;rename_i c Q;let Φ:Fr:=⟨w,λb=>(∃j,G.O b= .ar j)\/(∃i,G.O b= .bx i),λb=>G.O b= .fz,fn.ntmps,λ_=>none,λi=>if 100000<=i/\i<100000+bs.length then some (G.β i)else none,[],λ_=>none⟩;let m:Nat->Nat->Value:=λj q=>match w.heap[G.β (100000+j)]? with|some (.cells c _ _)=>c.getD q undef|_=>undef
 let G0:Gh:={G with av:=λk _=>if k<100000 then cs.getD k undef else m (k/100000-1) (k% 100000)};have ag:∀k,k<100000->G0.av k 0=cs.getD k undef:=λk hk=>by simp only[G0];rw[Pm hk]
 have ah:∀j q,q<100000->G0.av (100000*(j+1)+q) 0=m j q:=λj q hq=>by
  simp only[G0];rw[Ph Aa];rw[show(100000*(j+1)+q)/100000-1=j from Aa,show(100000*(j+1)+q)% 100000=q from Aa]
 have E:Keep w w G G0:=⟨λ_ h=>h,λ_ _=>rfl⟩;have ba:ys.length<100000:=Aa
 have al:∀(j:Nat) y,ys[j]? =some y->RbB T w G bs.length j (cs.getD j undef) y:=by
  intro j y hy;have hj:j<cs.size:=BB;exact aa j _ y GH hy
 have a4:∀ {j u e l},gJ T w G j u e l->u.oneCell'=true:=by
  intro j u e l h;exact MO
 have a2:∀ {u l},Rv w G u (.cap l)->u.oneCell'=true:=by
  intro u l h;exact Nc
 have B:∀ {j v y},RbB T w G bs.length j v y->linear y=false->y.ok (λi=>100000<=i/\i<100000+bs.length) (λ_ _=>False)/\Rv w G0 v y:=by
  intro j v y hr H
  have:y.ok (λi=>100000<=i/\i<100000+bs.length) (λ_ _=>False)/\Rv w G v y:=by
   unfold RbB at hr;grind [linear]
  exact⟨this.1,this.2.keep E this.1 (λ_ _=>rfl) (λ_ _ h=>h.elim)⟩
 have aw:∀ {j v y},RbB T w G bs.length j v y->linear y=true->v.oneCell'=true:=by
  grind [oW,RbB]
 have A:∀(j:Nat) b,bs[j]? =some b->G.O (G.β (100000+j))= .bx (100000+j)/\∃c t,w.heap[G.β (100000+j)]? =some (.cells c t (0,0))/\c.size=b.length/\
  ∀(q:Nat) y,b[q]? =some y->c[q]? =some (m j q)/\(m j q).oneCell'=true/\RbB T w G bs.length (100000*(j+1)+q) (m j q) y:=by
  intro j b Q;obtain⟨L,c,t,q2,I,X⟩:=af j b Q;refine⟨L,c,t,q2,I,λq y hy=>?_⟩;have hq:q<c.size:=by rw[I];exact(Pg.1 hy).1
  have e1:m j q=c[q] :=by simp only[m];rw[q2];simp[hq]
  grind
 have S:∀i n,bB3 bs 0 i=some n->∃j b,i=100000+j/\bs[j]? =some b/\n=kW b (100000*(j+1)):=by
  intro i n hi;rw[bI8]at hi;split at hi;rename_i a7;cases g:bs[i- (100000+0)]? with
  |none=>rw[g]at hi;cases hi
  |some b=>
   rw[g]at hi;simp only[Qg,Ql]at hi;exact⟨i-100000,b,Aa,by simpa using g,hi.symm⟩
  cases hi
 have ai:∀j b,bs[j]? =some b->bB3 bs 0 (100000+j)=some (kW b (100000*(j+1))):=by
  intro j b g;rw[bI8,Pm Aa,show 100000+j- (100000+0)=j from Aa,g];rfl
 have J:∀i,(100000<=i/\i<100000+bs.length)->(aG1 ys bs).hasB i:=by
  rintro i ⟨h1,h2⟩;have hj:i-100000<bs.length:=Aa;have:=ai (i-100000) bs[i-100000] (Pj hj);rw[show 100000+(i-100000)=i from Aa]at this;exact⟨_,this⟩
 have ab:∀(s:Nat) y,ys[s]? =some y->linear y=true->(aG1 ys bs).hasA s 0:=by
  intro s y hy H;have:∃en,jK ys 0 s=some en:=Je;obtain⟨en,D⟩:=this;exact⟨en,by show(match jK ys 0 s with|some en=>some en|none=>vT bs 0 s)=_;rw[D],P8 _⟩
 have ac:∀(j q:Nat) b y,bs[j]? =some b->b[q]? =some y->linear y=true->(aG1 ys bs).hasA (100000*(j+1)+q) 0:=by
  intro j q b y g hy H;obtain⟨en,D⟩:=cU9 (j:=0) g hy H;rw[QD]at D
  have h0:jK ys 0 (100000*(j+1)+q)=none:=by
   rw[gY];grind
  exact⟨en,by show(match jK ys 0 _ with|some en=>some en|none=>vT bs 0 _)=_;rw[h0];exact D,P8 _⟩
 have N:∀k en,(aG1 ys bs).ar k=some en->∃v y,RbB T w G bs.length k v y/\G0.av k 0=v/\((y= .own en.ty en.l/\en=⟨0, .own,en.ty,en.l⟩)\/(y= .ap en.ty en.l/\en=⟨0, .ap,en.ty,en.l⟩)):=by
  intro k en D;have U:(match jK ys 0 k with|some en=>some en|none=>vT bs 0 k)=some en:=D;split at U;rename_i a5 h0;cases U;rw[gY]at h0;grind;obtain⟨i,q,b,h1,h2,h3,Y⟩:=cC7 ae U;rw[QD]at h2;have hq:q<100000:=by have:=ae b (Pn h1);omega
  obtain⟨_,c,t,_,_,ay⟩:=A i b h1;subst h2;rcases Y with⟨Y,h5⟩|⟨Y,h5⟩;grind;grind
 have inv:Inv T Φ (aG1 ys bs) {tmps:=cs++Array.replicate (fn.ntmps-cs.size) undef,defers:=[]} w G0:=by
  constructor;rfl;intro s v h;cases h;grind;intro s;show Rv w G0 ((cs++Array.replicate (fn.ntmps-cs.size) undef).getD s undef) (pF ys 0 s);rw[lY];simp only[P8,QM,Rj];by_cases hs:s<cs.size
  have hv:(cs++Array.replicate (fn.ntmps-cs.size) undef).getD s undef=cs.getD s undef:=by
   simp[RH hs]
  have hy:ys[s]? =some ys[s] :=Pj Aa;rw[hv,hy];have hr:=al s _ hy;generalize ys[s] =y at*;simp only;cases H:linear y with
  |false=>exact(B hr H).2
  |true=>
   have h1:=aw hr H;have e:=ag s Aa;rw[<-e]at h1⊢;exact Rv.arr (w:=w) (G:=G0) s 0 h1
  exact Iu;intro s;show(pF ys 0 s).ok _ _;rw[lY];simp only[P8,QM,Rj];cases hy:ys[s]? with
  |none=>simp only[V.ok,V.okL]
  |some y=>
   simp only;have hr:=al s y hy;cases H:linear y with
   |false=>exact V.ok.imp J (λ_ _ h=>h.elim) _ (B hr H).1
   |true=>
    simp only[Qo,V.ok];exact ab s y hy H
  intro i n hi;obtain⟨j,b,rfl,g,rfl⟩:=S i n hi;obtain⟨L,c,t,q2,I,X⟩:=A j b g;refine⟨c,t,q2,⟨by rw[aR6];simpa using I,λv hv=>?_,λq v x hv R=>?_⟩,L⟩;obtain⟨q,hq⟩:=P7 hv;have a0:q<b.length:=by rw[<-I];simpa using(Pg.1 hq).1
  obtain⟨k1,k2,_⟩:=X q _ (Pj a0);grind;rw[aH4]at R;cases hy:b[q]? with
  |none=>rw[hy]at R;cases R
  |some y=>
   rw[hy]at R;simp only[Qg,Ql]at R;obtain⟨k1,k2,k3⟩:=X q y hy;have aq:c[q]? =some v:=AZ;rw[k1]at aq;cases aq
   have hq:q<100000:=by
    have h1:=ae b (Pn g);grind
   cases H:linear y with
   |false=>rw[H]at R;simp only[Qu]at R;subst R;exact(B k3 H).2
   |true=>
    rw[H]at R;simp only[Qo]at R;subst R;have e:=ah j q hq;rw[<-e]at k2⊢;exact Rv.arr (w:=w) (G:=G0) _ 0 k2
  intro i n hi;obtain⟨j,b,rfl,g,rfl⟩:=S i n hi;obtain⟨L,c,t,q2,I,X⟩:=A j b g;refine aH.2 λx R=>?_;obtain⟨q,hq⟩:=P7 R;rw[aH4]at hq;cases hy:b[q]? with
  |none=>rw[hy]at hq;cases hq
  |some y=>
   rw[hy]at hq;simp only[Qg,Ql]at hq;obtain⟨k1,k2,k3⟩:=X q y hy;cases H:linear y with
   |false=>rw[H]at hq;simp only[Qu]at hq;subst hq;exact V.ok.imp J (λ_ _ h=>h.elim) _ (B k3 H).1
   |true=>rw[H]at hq;simp only[Qo]at hq;subst hq;simp only[V.ok];exact ac j q b y g hy H
  intro k en D;obtain⟨v,y,h1,h2,h3⟩:=N k en D;have hO:∀b,G.O b= .ar k->G0.O b= .ar k/\w.heap[b]? =w.heap[b]? :=λb Q=>⟨Q,rfl⟩;rcases h3 with⟨rfl,Y⟩|⟨rfl,Y⟩;obtain⟨L,q2,I⟩:=h1;rw[Y];unfold gW;refine⟨L,?_⟩;show gJ T w G0 k (G0.av k 0) _ _;rw[h2];exact I.keep E q2 hO;obtain⟨L,q2,I⟩:=h1;rw[Y];unfold gW;refine⟨L,?_⟩;show gJ T w G0 k (G0.av k 0) _ _\/(Rv w G0 (G0.av k 0) _/\_);rw[h2];rcases I with q|q;exact .inl (q.keep E q2 hO);exact .inr ⟨q.1.aW E CV,q.2⟩;intro k en D;obtain⟨v,y,h1,h2,h3⟩:=N k en D;rcases h3 with⟨rfl,Y⟩|⟨rfl,Y⟩;exact h1.2.1;exact h1.2.1;exact ao;intro b i g;exact .inr (.inr ⟨i,g⟩);intro b k g;exact .inr (.inl ⟨k,g⟩);intro b g;exact .inl g;intro b g;exact g;intro b _ _;rfl;exact Po _;rfl;rfl;rfl;intro j v h;cases h;grind;intro i b h';have Z:(if 100000<=i/\i<100000+bs.length then some (G.β i)else none)=some b:=h';split at Z;rename_i hi;cases Z;exact⟨rfl,⟨hi.1,Aa⟩,J i hi⟩;cases Z
 refine wM hT hm hf Q (Φ:=Φ) rfl rfl rfl inv h ?_
 have fin:∀(e:Exit) (σ:St) (a':Act) (w':World) (G':Gh),retB T σ fn.results.toList r z->Inv T Φ σ a' w' G'->∃v,(results fn a'.tmps).run P w'= .ok v w'/\∃v0 C,(Ending.returned v= .returned v0)/\RrB T w' C bs.length v0 r/\BxOk T w' C z/\(∀i,i<bs.length->C.β (100000+i)=G.β (100000+i))/\
  (∀b,G.O b= .fz->C.O b= .fz)/\(∀b,C.O b≠ .ext->b<w'.heap.size)/\
  (∀b,C.O b≠ .ext->(G.O b= .fz/\C.O b= .fz)\/w.heap.size<=b\/(∃j,G.O b= .ar j)\/(∃i,G.O b= .bx i/\C.O b= .bx i))/\
  (∀b,b<w.heap.size->(∀j,G.O b≠ .ar j)->(∀i,G.O b≠ .bx i)->w'.heap[b]? =w.heap[b]?)/\
  w.heap.size<=w'.heap.size/\w'.os=w.os/\w'.tape=w.tape/\w'.output=w.output:=by
  intro e σ a' w' G' W inv';replace W:=W.out;obtain⟨xs,vs,hk,aj,a6,a1,an⟩:=aQ5 hT inv' _ _ W;have am:=aD1 an;refine⟨aI1 vs,am,aI1 vs,?_⟩;have au:∀i,i<bs.length->G'.β (100000+i)=G.β (100000+i):=λi hi=>(inv'.argb (100000+i) (G.β (100000+i)) Bf).1
  have M:∀(F:List V),xM T σ.ar (iP z 0) ((xs,F)::eU σ.bx z (iP z 0))->aT2 σ.bx ((xs,F)::eU σ.bx z (iP z 0)) (iP z 0)=true->∃C:Gh,(∀(j:Nat) v y,vs[j]? =some v->F[j]? =some y->RbB T w' C bs.length j v y)/\xs.length=F.length/\BxOk T w' C z/\(∀i,i<bs.length->C.β (100000+i)=G.β (100000+i))/\
   (∀b,G.O b= .fz->C.O b= .fz)/\(∀b,C.O b≠ .ext->b<w'.heap.size)/\
   (∀b,C.O b≠ .ext->(G.O b= .fz/\C.O b= .fz)\/w.heap.size<=b\/(∃j,G.O b= .ar j)\/(∃i,G.O b= .bx i/\C.O b= .bx i)):=by
   intro F h1 h2;obtain⟨Gc,L,q2,I,X,q5,q6⟩:=dR3 inv' rfl h1 h2 vs a1;rw[ax]at L;refine⟨Gc,L,q6,q2,λi hi=>by rw[I];exact au i hi,λb Q=>X b (inv'.F0 b Q),λb Q=>inv'.tag b ?_,λb Q=>?_⟩
   ·rcases q5 b Q with⟨h,_⟩|⟨k,h⟩|⟨i,hi,h,_⟩
    ·rw[h];simp
    ·rw[h];simp
    ·obtain⟨_,_,cs0,hcs0⟩:=inv'.argb (100000+i) (G.β (100000+i)) Bf
     obtain⟨_,_,_,_,hO⟩:=inv'.box _ cs0 hcs0;rw[h,hO];simp
   ·rcases q5 b Q with⟨h,h'⟩|⟨k,h⟩|⟨i,hi,h,h'⟩
    ·rcases inv'.fzm b h with h2|h2
     ·exact .inl ⟨h2,h'⟩
     ·rcases h2 with h2|h2|⟨i,h2⟩
      ·exact .inr (.inl h2)
      ·exact .inr (.inr (.inl h2))
      ·exact J4
    ·rcases inv'.mineA b k h with h2|h2|⟨i,h2⟩
     ·exact .inr (.inl h2)
     ·exact .inr (.inr (.inl h2))
     ·exact J4
    ·rw[au i Aa]at h
     refine .inr (.inr (.inr ⟨100000+i,?_,h'⟩));rw[h];have az:i<bs.length:=Aa;exact(A i bs[i] (Pj az)).1
  have frame:(∀b,b<w.heap.size->(∀j,G.O b≠ .ar j)->(∀i,G.O b≠ .bx i)->w'.heap[b]? =w.heap[b]?)/\w.heap.size<=w'.heap.size/\w'.os=w.os/\w'.tape=w.tape/\w'.output=w.output:=
   ⟨λb Q hj hi=>inv'.frame b Q (by
    rintro(⟨j,h⟩|⟨i,h⟩);exact hj j h
    exact hi i h),inv'.size,inv'.os,inv'.tape,inv'.output⟩
  split at hk
  ·rename_i x
   obtain⟨g1,g2,g3⟩:=hk;obtain⟨C,L,_,q2,I,X,q5,q6⟩:=M [r] g1 g2;obtain⟨v,rfl⟩:∃v,vs=[v] :=RD.1 aj;refine⟨C,rfl,?_,q2,I,X,q5,q6,frame⟩;have:=L 0 v r rfl rfl;unfold RrB;split
   ·exact absurd rfl (g3 _)
   ·exact this
  ·rename_i a9
   obtain⟨F,rfl,g1,g2⟩:=hk;obtain⟨C,L,ak,q2,I,X,q5,q6⟩:=M F g1 g2;refine⟨C,rfl,?_,q2,I,X,q5,q6,frame⟩;show∃us:Array Value,aI1 vs= .tuple us/\us.size=F.length/\∀(j:Nat) u y,us[j]? =some u->F[j]? =some y->RbB T w' C bs.length j u y;refine⟨vs.toArray,?_,by simp[aj,ak],λj u y hu hy=>L j u y AY hy⟩;exact MW
 intro e σ a' w' G' hq inv';exact Lr;exact h.elim
end
def dU6(u' u:Value):Prop:=
 match u with
 | .int k n=>match u' with| .int k' n'=>k'=k/\n'=n|_=>False
 | .bool b=>match u' with| .bool b'=>b'=b|_=>False
 |u=>u'=u
def wk1(ar r:Nat->Option AE)(x y:V):Prop:=
 match y with
 | .bot=>True
 | .lit u=>match x with| .lit u'=>dU6 u' u|_=>False
 | .sl l=>match x with
   | .sl l'=>l'=l
   | .cap l'=>l'=l
   | .lit (.slice none 0 0)=>l=[]
   | .arr k g=>match ar k with
     |some en=>match en.kind with
      | .frz=>en.gen=g/\en.l=l
      |_=>False
     |none=>False
   |_=>False
 | .arr k g=>match x with
   | .arr k' g'=>k'=k/\g'=g
   | .lit (.slice none 0 0)=>match ar k with
     |none=>match r k with
      |some en=>en.gen=g
      |none=>False
     |some _=>False
   |_=>False
 | .box i o=>match x with| .box i' o'=>i'=i/\o'=o|_=>False
 | .cap l=>match x with| .cap l'=>l'=l| .lit (.slice none 0 0)=>l=[] |_=>False
 | .fp l=>match x with| .fp l'=>l'=l|_=>False
 | .fn g l=>match x with| .fn g' l'=>g'=g/\l'=l|_=>False
 | .ae k g z i o=>match x with| .ae k' g' z' i' o'=>k'=k/\g'=g/\z'=z/\i'=i/\o'=o|_=>False
 |_=>False
def wkL(ar r:Nat->Option AE)(ys:List V):List V->Prop:=
 List.rec (motive:=λ_=>List V->Prop) (λxs=>match xs with| [] =>True|_::_=>False)
  (λy _ ih xs=>match xs with|x::xr=>wk1 ar r x y/\ih xr| [] =>False) ys
def wkV(ar r:Nat->Option AE)(x y:V):Prop:=
 match y with
 | .agg ys=>match x with| .agg xs=>wkL ar r ys xs|_=>False
 |y=>wk1 ar r x y
def bX7(a b:AK):Prop:=
 match b with
 | .own=>match a with| .own=>True|_=>False
 | .ap=>match a with| .own=>True| .ap=>True|_=>False
 | .frz=>match a with| .frz=>True|_=>False
 | .dead=>match a with| .dead=>True|_=>False
def wkAE(T:Tab)(o:Option AE)(en:AE):Prop:=
 match o with
 |some en0=>en0.gen=en.gen/\bX7 en0.kind en.kind/\en0.ty=en.ty/\en0.l=en.l
 |none=>bX7 .own en.kind/\en.l=[]/\Nat.blt en.ty (T.n en.ty)=true
def wfC1(b:Nat->Option (List V))(x:V):Prop:=
 match x with
 | .box i _=>match b i with|some _=>True|none=>False
 | .fp _=>True
 | .lit _=>True
 | .own _ [] =>True
 | .ap _ _=>True
 | .sl _=>True
 |_=>False
def wfC(b:Nat->Option (List V))(l:List V):Prop:=List.rec (motive:=λ_=>Prop) True (λx _ ih=>wfC1 b x/\ih) l
def wf1(b:Nat->Option (List V))(r:Nat->Option AE)(x:V):Prop:=
 match x with
 | .box i _=>match b i with|some _=>True|none=>False
 | .arr k g=>match r k with|some en=>g<=en.gen|none=>False
 | .ae k g _ _ _=>match r k with|some en=>g<=en.gen|none=>False
 | .fn _ l=>wfC b l
 |_=>True
def wfL(b:Nat->Option (List V))(r:Nat->Option AE)(l:List V):Prop:=List.rec (motive:=λ_=>Prop) True (λx _ ih=>wf1 b r x/\ih) l
def wfV(b:Nat->Option (List V))(r:Nat->Option AE)(x:V):Prop:=
 match x with
 | .agg cs=>wfL b r cs
 |x=>wf1 b r x
def wkE(σ:St)(b:Nat->Option (List V))(r:Nat->Option AE)(e:List (Nat×V)):Prop:=
 List.rec (motive:=λ_=>Prop) True (λp _ ih=>(wkV σ.ar r (σ.env p.1) p.2/\wfV b r p.2)/\ih) e
def wkB(σ:St)(b:Nat->Option (List V))(r:Nat->Option AE)(l:List (Nat×List V)):Prop:=
 List.rec (motive:=λ_=>Prop) True (λp _ ih=>(match σ.bx p.1 with|some cs=>wkL σ.ar r p.2 cs/\wfL b r p.2|none=>False)/\ih) l
def wkA(T:Tab)(σ:St)(l:List (Nat×AE)):Prop:=
 List.rec (motive:=λ_=>Prop) True (λp _ ih=>wkAE T (σ.ar p.1) p.2/\ih) l
theorem eJ6{c u:Value}(h:dU6 c u):c=u:=by
 unfold dU6 at h;grind
section
variable{T:Tab}{Φ:Fr}{σ:St}{a:Act}{w:World}{G:Gh}{b:Nat->Option (List V)}{r:Nat->Option AE}
def xI(σ:St)(G:Gh):Gh:={G with av:=λk g=>match σ.ar k with|none=> .slice none 0 0|some _=>G.av k g}
def bD1(σ:St)(w:World)(G:Gh):Keep w w G (xI σ G):=⟨λ_ h=>h,λ_ _=>rfl⟩
def eB6{k g:Nat}(h:σ.hasA k g):(xI σ G).av k g=G.av k g:=by
 obtain⟨en,h,_⟩:=h;simp[xI,h]
def eX8{τ:St}{p:Nat->Prop}{q:Nat->Nat->Prop}{l:List V}:wfC τ.bx l->V.okL p q l->V.okL τ.hasB τ.hasA l:=by
 induction l with
 |nil=>intro _ _;simp only[V.okL]
 |cons x r i=>
  intro h c;obtain⟨e,g⟩:wfC1 τ.bx x/\wfC τ.bx r:=h;simp only[V.okL]at c⊢;refine⟨?_,i g c.2⟩;have d:=c.1;unfold wfC1 at e;split at e;split at e;rename_i cs f;simp only[V.ok];exact⟨cs,f⟩;exact e.elim;simp only[V.ok]at d⊢;exact d;simp only[V.ok];simp only[V.ok,V.okL];simp only[V.ok]at d⊢;exact d;simp only[V.ok]at d⊢;exact d;exact e.elim
theorem aG3(inv:Inv T Φ σ a w G){v:Value}{x y:V}(m:Rv w G v x)(c:x.ok σ.hasB σ.hasA)(h:wk1 σ.ar r x y)(hw:wf1 b r y)(τ:St)(u:τ.bx=b)(A:τ.ar=r):
 Rv w (xI σ G) v y/\y.ok τ.hasB τ.hasA:=by
 have f:Rv w (xI σ G) v x:=m.keep (bD1 σ w G) c (λ_ _=>rfl) (λk g h=>eB6 h);subst u A;unfold wk1 at h;split at h
 ·exact⟨.bot v,Bq⟩
 ·grind [eJ6,V.ok]
 ·split at h
  ·grind [V.ok]
  ·subst h;exact⟨f.wK,by simp only[V.ok]at c⊢;exact c⟩
  ·subst h
   have:=m.bH;subst this;exact⟨.slN,DL⟩
  ·split at h
   ·rename_i k g _ en hen
    split at h
    ·rename_i s
     obtain⟨rfl,rfl⟩:=h;have n:=inv.arr k en hen;unfold gW at n;rw[s]at n;have hp:=inv.wfA k en hen;have t:(V.sl en.l).pure:=Aq;have hv:=m.oQ;rw[hv];exact⟨(n:Rv w G _ _).aW (bD1 σ w G) t,by simp only[V.ok];exact hp⟩
    ·exact h.elim
   ·exact h.elim
  ·exact h.elim
 ·rename_i k g
  have j:τ.hasA k g:=JR;split at h
  ·grind [V.ok]
  ·split at h
   ·rename_i d
    split at h
    ·have hv:=m.bH
     subst hv;have e:(xI σ G).av k g= .slice none 0 0:=by simp[xI,d]
     rw[<-e];exact⟨.arr k g (by rw[e];rfl),by simp only[V.ok];exact j⟩
    ·exact h.elim
   ·exact h.elim
  ·exact h.elim
 ·split at h
  ·obtain⟨rfl,rfl⟩:=h
   refine⟨f,?_⟩;unfold wf1 at hw;simp only at hw;split at hw
   ·rename_i cs q;simp only[V.ok];exact⟨cs,q⟩
   ·exact hw.elim
  ·exact h.elim
 ·split at h
  ·grind [V.ok]
  ·subst h
   have:=m.bH;subst this;exact⟨.capN,DL⟩
  ·exact h.elim
 ·grind [V.ok]
 ·split at h
  ·obtain⟨rfl,rfl⟩:=h
   refine⟨f,?_⟩;simp only[V.ok]at c⊢;exact eX8 (τ:=τ) hw c
  ·exact h.elim
 ·rename_i k g z i o
  have j:τ.hasA k g:=JR;grind [V.ok]
 ·exact h.elim
def bL3{ar:Nat->Option AE}{ys:List V}:∀ {xs:List V},wkL ar r ys xs->wfL b r ys->xs.length=ys.length/\∀(i:Nat) x y,xs[i]? =some x->ys[i]? =some y->wk1 ar r x y/\wf1 b r y:=by
 induction ys with
 |nil=>
  intro xs h _;cases xs with
  |nil=>exact⟨rfl,λi x y hx=>Hf⟩
  |cons x xr=>exact(h:False).elim
 |cons y c f=>
  intro xs h e;cases xs with
  |nil=>exact(h:False).elim
  |cons x xr=>
   obtain⟨j,d⟩:=(h:wk1 ar r x y/\wkL ar r c xr);obtain⟨m,g⟩:=(e:wf1 b r y/\wfL b r c);obtain⟨k,l⟩:=f d g;grind
def bT8(inv:Inv T Φ σ a w G){v:Value}{x y:V}(l:Rv w G v x)(e:x.ok σ.hasB σ.hasA)(h:wkV σ.ar r x y)(k:wfV b r y)(τ:St)(m:τ.bx=b)(n:τ.ar=r):
 Rv w (xI σ G) v y/\y.ok τ.hasB τ.hasA:=by
 unfold wkV at h;split at h
 ·rename_i ys
  split at h
  ·rename_i xs
   obtain⟨q1,o⟩:=bL3 h k;obtain⟨cs,rfl,g,j,hrel⟩:=l.zV;simp only[V.ok]at e
   have d:∀(i:Nat) c y,cs[i]? =some c->ys[i]? =some y->Rv w (xI σ G) c y/\y.ok τ.hasB τ.hasA:=by
    intro i c y f hy;have hi:i<xs.length:=E8;grind [aG3,aH,Rl]
   refine⟨.agg cs ys Aa j λi c y f hy=>(d i c y f hy).1,?_⟩;simp only[V.ok];rw[aH];intro y hy;obtain⟨i,hi⟩:=P7 hy;have hlt:i<cs.size:=by rw[g,q1];exact(Pg.1 hi).1
   exact(d i cs[i] y Ht hi).2
  ·exact h.elim
 ·grind [aG3,wfV]
def dT6{d:Type}{c:d}{l:List (Nat×d)}(s:Nat):ofL c l s=c\/∃p∈l,p.1=s/\ofL c l s=p.2:=by
 induction l with
 |nil=>exact .inl rfl
 |cons p q f=>
  have e:ofL c (p::q) s=cond (Nat.beq s p.1) p.2 (ofL c q s):=rfl;grind [Nat.beq,Qp]
def aF5{c:Type}{l:List (Nat×c)}{s:Nat}{x:c}(h:ofO l s=some x):∃p∈l,p.1=s/\p.2=x:=by
 induction l with
 |nil=>cases h
 |cons p q e=>
  have d:ofO (p::q) s=cond (Nat.beq s p.1) (some p.2) (ofO q s):=rfl;grind [Nat.beq,Qp]
def cP0{e:List (Nat×V)}(h:wkE σ b r e):∀p∈e,wkV σ.ar r (σ.env p.1) p.2/\wfV b r p.2:=by
 induction e with
 |nil=>intro p hp;cases hp
 |cons q l ih=>
  obtain⟨h1,h2⟩:=(h:(wkV σ.ar r (σ.env q.1) q.2/\wfV b r q.2)/\wkE σ b r l);intro p hp;exact Ov
def cF4{l:List (Nat×List V)}(h:wkB σ b r l):∀p∈l,∃cs,σ.bx p.1=some cs/\wkL σ.ar r p.2 cs/\wfL b r p.2:=by
 induction l with
 |nil=>intro p c;cases c
 |cons q l e=>
  obtain⟨f,d⟩:=(h:(match σ.bx q.1 with|some cs=>wkL σ.ar r q.2 cs/\wfL b r q.2|none=>False)/\wkB σ b r l);intro p c;rcases P5.1 c with rfl|c;grind;exact e d p c
def cO0{l:List (Nat×AE)}(h:wkA T σ l):∀p∈l,wkAE T (σ.ar p.1) p.2:=by
 induction l with
 |nil=>intro p hp;cases hp
 |cons q l ih=>
  obtain⟨h1,h2⟩:=(h:wkAE T (σ.ar q.1) q.2/\wkA T σ l);intro p hp;exact Ov
def cR3(inv:Inv T Φ σ a w G){k:Nat}{c en:AE}(d:σ.ar k=some c)(e:c.gen=en.gen)(f:bX7 c.kind en.kind)(g:c.ty=en.ty)(h:c.l=en.l):gW T w G k en:=by
 have i:=inv.arr k c d;grind [bX7,gW]
def has8(o p:Option AE):Prop:=match o with|none=>True|some _=>(match p with|some _=>True|none=>False)
def aN5(o p:Option (List V)):Prop:=match o with|none=>True|some _=>(match p with|some _=>True|none=>False)
def wk8b(ar r:Nat->Option (List V)):Prop:=aN5 (ar 100000) (r 100000)/\aN5 (ar 100001) (r 100001)/\aN5 (ar 100002) (r 100002)/\aN5 (ar 100003) (r 100003)/\aN5 (ar 100004) (r 100004)/\aN5 (ar 100005) (r 100005)/\aN5 (ar 100006) (r 100006)/\aN5 (ar 100007) (r 100007)
def dS5{ar r:Nat->Option (List V)}(h:wk8b ar r){j:Nat}(q:100000<=j/\j<100008){en:List V}(n:ar j=some en):∃c,r j=some c:=by
 have key:∀ {o p:Option (List V)},aN5 o p->o=some en->∃c,p=some c:=by
  intro o p h ho;exact Oi
 obtain⟨d,e,f,g,i,k,l,m⟩:=h;grind
def wk8(ar r:Nat->Option AE):Prop:=has8 (ar 0) (r 0)/\has8 (ar 1) (r 1)/\has8 (ar 2) (r 2)/\has8 (ar 3) (r 3)/\has8 (ar 4) (r 4)/\has8 (ar 5) (r 5)/\has8 (ar 6) (r 6)/\has8 (ar 7) (r 7)
def dT9{ar r:Nat->Option AE}(h:wk8 ar r){j:Nat}(q:j<8){en:AE}(c:ar j=some en):∃d,r j=some d:=by
 have key:∀ {o p:Option AE},has8 o p->o=some en->∃d,p=some d:=by
  intro o p h ho;exact Oi
 obtain⟨e,f,g,i,k,l,m,n⟩:=h;match j,q with
 |0,_=>exact key e c
 |1,_=>exact key f c
 |2,_=>exact key g c
 |3,_=>exact key i c
 |4,_=>exact key k c
 |5,_=>exact key l c
 |6,_=>exact key m c
 |7,_=>exact key n c
def dV{e:List (Nat×V)}{o:List (Nat×List V)}{q:List (Nat×AE)}(P:wk8 σ.ar (ofO q)/\wk8b σ.bx (ofO o))(Q:wkA T σ q)(R:wkB σ (ofO o) (ofO q) o)(S:wkE σ (ofO o) (ofO q) e):Le T σ (mkSt e o q):=by
 unfold Le;intro Φ a w G inv;have B:∀s,(mkSt e o q).env s= .bot\/∃p∈e,p.1=s/\(mkSt e o q).env s=p.2:=λs=>dT6 s;have D:∀k g,σ.hasA k g->(xI σ G).av k g=G.av k g:=λk g h=>eB6 h;refine⟨xI σ G,?_⟩;refine {nd:=inv.nd,kp:=inv.kp,sz:=inv.sz,env:= ?_,wfE:= ?_,box:= ?_,wfB:= ?_,arr:= ?_,wfA:= ?_,tag:=inv.tag,mineB:=inv.mineB,mineA:=inv.mineA,fzm:=inv.fzm,F0:=inv.F0,lay:=inv.lay,frame:=inv.frame,size:=inv.size,os:=inv.os,tape:=inv.tape,output:=inv.output,args:=λj v h=>⟨(D j 0 ⟨_,(inv.args j v h).2.2.choose_spec,P8 _⟩).trans (inv.args j v h).1,(inv.args j v h).2.1,dT9 P.1 (inv.args j v h).2.1 (inv.args j v h).2.2.choose_spec⟩,argb:=λi F h=>⟨(inv.argb i F h).1,(inv.argb i F h).2.1,dS5 P.2 (inv.argb i F h).2.1 (inv.argb i F h).2.2.choose_spec⟩};intro s;rcases B s with h|⟨p,m,rfl,h⟩;rw[h];exact .bot _;rw[h];obtain⟨u,l⟩:=cP0 S p m;exact(bT8 inv (inv.env p.1) (inv.wfE p.1) u l (mkSt e o q) rfl rfl).1;intro s;rcases B s with h|⟨p,m,rfl,h⟩;rw[h];simp only[V.ok];rw[h];obtain⟨u,l⟩:=cP0 S p m;exact(bT8 inv (inv.env p.1) (inv.wfE p.1) u l (mkSt e o q) rfl rfl).2;intro i cs hi;obtain⟨p,m,rfl,rfl⟩:=aF5 hi;obtain⟨d,f,u,l⟩:=cF4 R p m;obtain⟨c,t,N,A,O⟩:=inv.box p.1 d f;obtain⟨q1,M⟩:=bL3 u l;refine⟨c,t,N,⟨by rw[A.len,q1],A.one,λi v y hv hy=>?_⟩,O⟩;have hlt:i<d.length:=E8;have n:d[i]? =some d[i] :=Ht;obtain⟨K,L⟩:=M i d[i] y n hy;exact(aG3 inv (A.rel i v d[i] hv n) (aH.1 (inv.wfB p.1 d f) _ (Rl hlt)) K L (mkSt e o q) rfl rfl).1;intro i cs hi;obtain⟨p,m,rfl,rfl⟩:=aF5 hi;obtain⟨d,f,u,l⟩:=cF4 R p m;obtain⟨c,t,N,A,O⟩:=inv.box p.1 d f;obtain⟨q1,M⟩:=bL3 u l;rw[aH];intro y hy;obtain⟨i,E⟩:=P7 hy;have hlt:i<d.length:=by rw[q1];exact(Pg.1 E).1
 have n:d[i]? =some d[i] :=Ht;have X:i<c.toList.length:=by rw[A.len];exact hlt
 obtain⟨K,L⟩:=M i d[i] y n E;exact(aG3 inv (A.rel i c.toList[i] d[i] Af n) (aH.1 (inv.wfB p.1 d f) _ (Rl hlt)) K L (mkSt e o q) rfl rfl).2;intro k en H;obtain⟨p,m,rfl,rfl⟩:=aF5 H;have h:=cO0 Q p m;unfold wkAE at h;split at h;rename_i C z;have J:=cR3 inv z h.1 h.2.1 h.2.2.1 h.2.2.2;refine J.keep (bD1 σ w G) ?_ ?_ (λb W=>⟨W,rfl⟩);rw[<-h.2.2.2];exact inv.wfA _ _ z;exact D _ _ ⟨C,z,Aa⟩;rename_i z;obtain⟨u,l,U⟩:=h;have x:(xI σ G).av p.1 p.2.gen= .slice none 0 0:=by simp[xI,z]
 have hlt:=blt U;unfold gW;split;rw[l];trivial;rename_i I;rw[I]at u;exact u.elim;rw[x,l];exact⟨hlt, .inl ⟨.inl rfl,rfl⟩⟩;rw[x,l];exact⟨hlt, .inl (.inl ⟨.inl rfl,rfl⟩)⟩;intro k en H;obtain⟨p,m,rfl,rfl⟩:=aF5 H;have h:=cO0 Q p m;unfold wkAE at h;split at h;rename_i C z;rw[<-h.2.2.2];exact inv.wfA _ _ z;rw[h.2.1];simp only[V.okL]
end
section
variable{T:Tab}{P:Program}{Φ:Fr}{σ:St}{a:Act}{w w':World}{G G':Gh}{K:VK}{o:Oper}{d:Nat}
structure retN(T:Tab)(σ:St)(rs:List ResultVar)(cells:List V):Prop where
 out:aH3 T σ rs λxs=>match xs with
  | [.box i 0] =>match σ.bx i with
    |some cs=>iQ T σ.ar cells cs/\iR cs cells=true/\allR (λy=> !linear y) cells=true
    |none=>False
  |_=>False
def fnVCN(T:Tab)(P:Program)(fn:Func)(ys:List V)(cells:List V):Prop:=
 match fn.body with
 |some c=>nH T P fn.ntmps c (uD ys) λe σ=>match e with
  | .normal=>retN T σ fn.results.toList cells
  | .ret=>retN T σ fn.results.toList cells
  |_=>False
 |none=>False
def retN_i{c:List ResultVar}{b:List V}(h:aH3 T σ c λxs=>match xs with
 | [.box i 0] =>match σ.bx i with
   |some cs=>iQ T σ.ar b cs/\iR cs b=true/\allR (λy=> !linear y) b=true
   |none=>False
 |_=>False):retN T σ c b:=⟨h⟩
def fnN_sound(hT:bP T P)(hm:P.follows .mixedOrders=true){f:FuncId}{z:Func}(hf:P.funcs[f]? =some z)(hc:callable P f=true){ys:List V}{g:List V}(hn:ys.length<=z.ntmps)(h:fnVCN T P z ys g):SpecN T P f ys g:=by
 refine⟨hc,?_⟩;intro w G cs hcs B ab E N;unfold fnVCN at h;split at h
 ·rename_i c hb
  let Φ:Fr:=⟨w,λb=>∃j,G.O b= .ar j,λb=>G.O b= .fz,z.ntmps,λ_=>none,λ_=>none,[],λ_=>none⟩;let G0:Gh:={G with av:=λk _=>cs.getD k undef};have hkeep:Keep w w G G0:=⟨λ_ h=>h,λ_ _=>rfl⟩
  have hrb:∀(j:Nat) y,ys[j]? =some y->Rb T w G j (cs.getD j undef) y:=by
   intro j y hy;have hj:j<cs.size:=BB;exact E j _ y GH hy
  have C:∀ {j u e l},gJ T w G j u e l->u.oneCell'=true:=by
   intro j u e l h;exact MO
  have J:∀ {u l},Rv w G u (.cap l)->u.oneCell'=true:=by
   intro u l h;exact Nc
  have inv:Inv T Φ (uD ys) {tmps:=cs++Array.replicate (z.ntmps-cs.size) undef,defers:=[]} w G0:=by
   constructor;rfl;intro s v h;cases h;show(cs++Array.replicate (z.ntmps-cs.size) undef).size=z.ntmps;simp;omega;intro s;show Rv w G0 ((cs++Array.replicate (z.ntmps-cs.size) undef).getD s undef) (pF ys 0 s);rw[lY];simp only[P8,QM,Rj];by_cases hs:s<cs.size
   have hv:(cs++Array.replicate (z.ntmps-cs.size) undef).getD s undef=cs.getD s undef:=by
    simp[RH hs]
   have hy:ys[s]? =some ys[s] :=Pj Aa;rw[hv,hy];have hr:=hrb s _ hy;generalize ys[s] =y at*;simp only;cases F:linear y with
   |false=>
    have:y.pure/\Rv w G (cs.getD s undef) y:=by
     unfold Rb at hr;split at hr;simp[linear]at F;simp[linear]at F;exact hr
    exact this.2.aW hkeep this.1
   |true=>
    have h1:(cs.getD s undef).oneCell'=true:=by
     unfold Rb at hr;split at hr;exact C hr.2.2;rcases hr.2.2 with q|q;exact C q;exact J q.1;rename_i S U;rw[oW S U]at F;cases F
    exact Rv.arr (w:=w) (G:=G0) s 0 h1
   have hy:ys[s]? =none:=Qj Aa;rw[hy]
   have hv:(cs++Array.replicate (z.ntmps-cs.size) undef).getD s undef=undef:=by
    rw[Qy,RG Aa];by_cases n:s-cs.size<z.ntmps-cs.size;simp[n];rw[RZ Be];rfl
   rw[hv];exact xK w G0;intro s;show(pF ys 0 s).ok _ _;rw[lY];simp only[P8,QM,Rj];cases hy:ys[s]? with
   |none=>simp only[V.ok,V.okL]
   |some y=>
    simp only;have hr:=hrb s y hy;cases F:linear y with
    |false=>
     have:y.pure:=by
      unfold Rb at hr;split at hr;simp[linear]at F;simp[linear]at F;exact hr.1
     exact V.pure.ok this _ _
    |true=>
     simp only[Qo,V.ok];have:∃en,jK ys 0 s=some en/\0<=en.gen:=Je;exact this
   intro i cs' hi;exact LV;intro i cs' hi;exact LV;intro k en hen;exact LX;intro k en hen;exact LY;exact B;intro b i hb;exact absurd hb (ab b i);intro b k hb;exact .inr ⟨k,hb⟩;intro b hb;exact .inl hb;intro b hb;exact hb;intro b _ _;rfl;exact Po _;rfl;rfl;rfl;intro j v h;cases h;exact⟨N,λb hb=>⟨B b (by rw[show G.O b= .fz from hb];simp),λ⟨j,hj⟩=>by rw[show G.O b= .fz from hb]at hj;cases hj⟩⟩;intro i b h;cases h
  refine wM hT hm hf hb (Φ:=Φ) rfl rfl rfl inv h ?_
  have fin:∀(e:Exit) (σ:St) (a':Act) (w':World) (G':Gh),retN T σ z.results.toList g->Inv T Φ σ a' w' G'->∃v,(results z a'.tmps).run P w'= .ok v w'/\∃v0 D,(Ending.returned v= .returned v0)/\(Rr T w' D v0 .bot/\NewX g v0 cs w' D)/\
   (∀b,G.O b= .fz->D.O b= .fz)/\(∀b,D.O b≠ .ext->b<w'.heap.size)/\(∀b i,D.O b≠ .bx i)/\
   (∀b,D.O b≠ .ext->(G.O b= .fz/\D.O b= .fz)\/w.heap.size<=b\/∃j,G.O b= .ar j)/\
   (∀b,b<w.heap.size->(∀j,G.O b≠ .ar j)->w'.heap[b]? =w.heap[b]?)/\
   w.heap.size<=w'.heap.size/\w'.os=w.os/\w'.tape=w.tape/\w'.output=w.output:=by
   intro e σ a' w' G' Y inv';obtain⟨xs,vs,M,ae,ai,ah,Z⟩:=aQ5 hT inv' _ _ Y.out;have X:=aD1 Z;refine⟨aI1 vs,X,aI1 vs,?_⟩;split at M;rotate_left
   ·exact M.elim
   rename_i i;split at M;rotate_left
   ·exact M.elim
   rename_i I A;obtain⟨g1,g2,g3⟩:=M;obtain⟨v,rfl⟩:∃v,vs=[v] :=RD.1 ae;obtain⟨ag,aj⟩:=ah 0 v (.box i 0) rfl rfl;obtain⟨c,t,k1,k2,k3⟩:=inv'.box i I A;have hv:v= .pointer (some ⟨G'.β i,0,none⟩):=by cases ag;rfl
   have W:=aH.1 (inv'.wfB i I A);obtain⟨r,q1,q2,q3,q4⟩:=cF9 inv' g1 g2 c.toList (λj u x H hx=>⟨k2.rel j u x H hx,W x (Pn hx)⟩)
   have aa:r.O (G'.β i)= .ext:=by
    cases hO:r.O (G'.β i)with
    |ext=>rfl
    |_=>
     exfalso;rcases q4 (G'.β i) (by rw[hO];simp)with⟨h,_⟩|⟨k,h⟩<;>(rw[k3]at h;cases h)
   have Q:=(qM g1).1;have L:c.toList.length=g.length:=by rw[k2.len,Q]
   have R:∀b,r.O b≠ .ext->b≠G'.β i:=λb hb e=>hb (by rw[e];exact aa);have ac:Keep w' w' r {r with O:=upd r.O (G'.β i) (.ar 0)}:=⟨λb hb=>by show upd _ _ _ b=_;rw[upd_ne _ _ (R b (by rw[hb];simp))];exact hb,λ_ _=>rfl⟩
   have m:∀(j:Nat) u y,c.toList[j]? =some u->g[j]? =some y->y.pure/\Rv w' r u y:=by
    intro j u y H hy;have h1:=q1 j u y H hy;have n:=dY.1 g3 y (Pn hy);unfold Rb at h1;split at h1;simp[linear]at n;simp[linear]at n;exact h1
   refine⟨{r with O:=upd r.O (G'.β i) (.ar 0)},rfl,⟨⟨Bq, .bot _⟩,?_,G'.β i,c,t,0,hv,upd_same _ _ _,k1,L,k2.one,λj u y H hy=>(m j u y H hy).2.aW ac (m j u y H hy).1⟩,?_,?_,?_,?_,λb hb hj=>inv'.frame b hb (λ⟨j,h⟩=>hj j h),inv'.size,inv'.os,inv'.tape,inv'.output⟩
   ·refine aH.2 λy hy=>?_
    obtain⟨j,hj⟩:=P7 hy;have af:j<c.toList.length:=by rw[L];exact(Pg.1 hj).1
    exact(m j c.toList[j] y (Pj af) hj).1
   ·intro b hb
    have h1:=q2 b (inv'.F0 b hb);show upd r.O _ _ b=_;rw[upd_ne _ _ (R b BD)];exact h1
   ·intro b hb
    by_cases e:b=G'.β i
    ·subst e;exact inv'.tag _ (by rw[k3];simp)
    ·have n:upd r.O (G'.β i) (.ar 0) b≠ .ext:=hb
     rw[upd_ne _ _ e]at n;refine inv'.tag b ?_;rcases q4 b n with⟨h,_⟩|⟨k,h⟩<;>(rw[h];simp)
   ·intro b i' hb
    by_cases e:b=G'.β i
    ·subst e
     have n:upd r.O (G'.β i) (.ar 0) (G'.β i)= .bx i':=hb;rw[upd_same]at n;cases n
    ·have n:upd r.O (G'.β i) (.ar 0) b= .bx i':=hb
     rw[upd_ne _ _ e]at n;exact q3 b i' n
   ·intro b hb
    by_cases e:b=G'.β i
    ·subst e
     exact .inr (inv'.mineB _ i k3)
    ·have n:upd r.O (G'.β i) (.ar 0) b≠ .ext:=hb
     rw[upd_ne _ _ e]at n;show _/\upd r.O (G'.β i) (.ar 0) b=_\/_;rw[upd_ne _ _ e];rcases q4 b n with⟨h,h'⟩|⟨k,h⟩
     ·rcases inv'.fzm b h with h3|h3
      ·exact .inl ⟨h3,h'⟩
      ·exact .inr h3
     ·exact .inr (inv'.mineA b k h)
  intro e σ a' w' G' hq inv';exact Lr
 exact h.elim
end
end Go.Ab
