/-
  Code and functions.
-/
import Derived.Test.YtkhhdojgbkophaaGreatDoorA11
set_option linter.unusedVariables false
set_option linter.unusedSimpArgs false
noncomputable section
namespace Go.Ab
section
variable{T:Tab}{P:Program}{Φ:Fr}{σ:St}{a:Act}{w w':World}{G G':Gh}{K:VK}{o:Oper}{d:Nat}
theorem aS6{light:Md}{n:Nat}{ops:List Oper}{K:St->Prop}:∀(l:List Oper) (σ:St),aY0 T P light n ops l σ.env σ.bx σ.ar K->Run T P light n ops l σ K:=by
 intro l
 induction l with
 |nil=>intro σ h;exact h
 |cons o r ih=>
  intro σ h;have h':bH0 T P light n ops o (aY0 T P light n ops r) σ.env σ.bx σ.ar K:=h;exact(aX6 h').mono (fun _ _ _ hk=>aR8 hk) (fun σ' hk=>ih σ' hk)
theorem aK7{α:Type}{l m:List α}{x:α}:x∈appR l m↔x∈l\/x∈m:=by rw[bT,List.mem_append]
theorem wpIn_loop_ghost{F:Fence}{n:Nat}{Q:Exit->Act->World->Prop}{c:Code}(I:Nat->Act->World->Prop)(n₀:Nat)(h₀:I n₀ a w)
 (round:∀n' a w,I n' a w->c.wpIn F n P (Exit.then (fun a' w'=>∃n2,n2<n'/\I n2 a' w') Q) a w):(Code.loop c).wpIn F n P Q a w:=by
 refine wpIn_loop (fun a w=>∃n,I n a w) (fun a w=>leastOf (fun n=>I n a w)) ⟨n₀,h₀⟩ ?_;intro a w hI;refine wpIn_mono (round _ a w (leastOf_spec hI).1) ?_;intro e a' w' hq
 cases e with
 |normal=>
  obtain⟨n',hlt,hI'⟩:=hq;exact show(∃n,I n a' w')/\leastOf (fun n=>I n a' w')<leastOf (fun n=>I n a w)from⟨⟨n',hI'⟩,Nat.lt_of_le_of_lt ((leastOf_spec ⟨n',hI'⟩).2 n' hI') hlt⟩
 |exit id=>exact hq
 |goto l=>exact hq
 |ret=>exact hq
 |panic ch=>exact hq
 |outgrown=>exact hq
theorem oK{b:Frame}{k:List Item}{cs:List Frame}{c:Code}:step P (lone (b.atR a (.code (.scope c)::k)) cs w)= .next (lone (b.atR a (.code c:: .inScope c::k)) cs w):=
 step_lone_go (by simp[stepG,stepG.exec,Frame.atR])
theorem bN3{b:Frame}{k:List Item}{cs:List Frame}{c:Code}:step P (lone (b.atR a (.inScope c::k)) cs w)= .next (lone (b.atR a k) cs w):=
 step_lone_go (by simp[stepG,stepG.exec,Frame.atR])
theorem bE2{F:Fence}{n:Nat}{c:Code}{Q:Exit->Act->World->Prop}(h:c.wpIn F n P (fun e a w=>match e with| .goto _=>False|e=>Q e a w) a w):(Code.scope c).wpIn F n P Q a w:=by
 intro b k cs hro hb hr;have h0:(lone (b.atR a (.code (.scope c)::k)) cs w).fenced P F:=fenced_calm hb hr rfl;obtain⟨e,a₁,w₁,hq,harr⟩:=h b (.inScope c::k) cs hro hb hr
 cases e with
 |normal=>exact⟨.normal,a₁,w₁,hq, .head h0 oK (StepsIn.trans harr (.one (fenced_calm hb hr rfl) bN3))⟩
 |exit id'=>
  have hx:exitTo id' (.inScope c::k)=exitTo id' k:=by simp[exitTo]
  exact⟨.exit id',a₁,w₁,hq,fun k' hk=> .head h0 oK (harr.1 k' (by rw[hx];exact hk)),
   fun hr' hk=>let⟨k₁,h1,h2⟩:=harr.2 hr' (by rw[hx];exact hk);⟨k₁,h1, .head h0 oK h2⟩⟩
 |goto l=>exact hq.elim
 |ret=>exact⟨_,a₁,w₁,hq, .of_steps (.one h0 oK) harr⟩
 |panic ch=>exact⟨_,a₁,w₁,hq, .of_steps (.one h0 oK) harr⟩
 |outgrown=>exact⟨_,a₁,w₁,hq, .of_steps (.one h0 oK) harr⟩
theorem cZ2(hT:bP T P)(hm:P.follows .mixedOrders=true){n:Nat}(c:Code):∀(Φ:Fr) (ro:Option Nat) (σ:St) (a:Act) (w:World) (G:Gh) (Q:Exit->St->Prop),(ro=none\/iC c=true)->Φ.n=n->(∀d∈dstsOf c,Φ.keep d=none)->Inv T Φ σ a w G->nH T P n c σ Q->c.wpIn (FW ro) 0 P (Lift T Φ Q) a w:=by
 induction c with
 |skip=>intro Φ ro σ a w G Q _ _ _ inv h;exact wpIn_skip (Lift.of h inv)
 |region id ops draw=>
  intro Φ ro σ a w G Q _ hn hk inv h;subst hn;have hk':∀o∈ops.toList,∀d,o.dst=some d->Φ.keep d=none:=fun o ho d hd=>hk d (dP9 ho hd);obtain⟨env,bx,ar⟩:=σ
  cases draw with
  |false=>
   have h':aY0 T P .free Φ.n ops.toList ops.toList env bx ar (Q .normal):=h;have hr:=aS6 ops.toList ⟨env,bx,ar⟩ h'
   exact wpIn_region_list (eB0 hT rfl ro (fun σ' a' w' G' hk inv'=>Lift.of hk inv') ops.toList _ a w G hk' inv hr)
  |true=>
   have h':aC9 T env ops.toList (fun hv=>aY0 T P (.drawn hv) Φ.n ops.toList ops.toList env bx ar (Q .normal)):=h;replace h':=h'.out;obtain⟨cl,hv,h0,h1,h2⟩:=h';have hr:=aS6 ops.toList ⟨env,bx,ar⟩ h2
   exact bC4 hT ro hm rfl hk' h1 (dC3 inv.wfE h0) (fun σ' a' w' G' hk inv'=>Lift.of hk inv') id inv hr
 |seq x y ihx ihy=>
  intro Φ ro σ a w G Q hro hn hk inv h;have h':dG2 T (nH T P n x) (nH T P n y) σ Q:=h;replace h':=h'.out;have hkx:∀d∈dstsOf x,Φ.keep d=none:=fun d hd=>hk d (aK7.2 (.inl hd))
  have hky:∀d∈dstsOf y,Φ.keep d=none:=fun d hd=>hk d (aK7.2 (.inr hd));have hrx:ro=none\/iC x=true:=hro.imp id fun hh=>Jo
  have hry:ro=none\/iC y=true:=hro.imp id fun hh=>IY;refine wpIn_seq ?_;rcases h' with h1|⟨C,h1,h2⟩
  ·refine wpIn_mono (ihx Φ ro σ a w G _ hrx hn hkx inv h1) ?_
   rintro e a' w' ⟨ms,σ',G',hq,inv',mk⟩
   cases e with
   |normal=>exact wpIn_mono (ihy (Fr.at {Φ with ds:=ms++Φ.ds} w' G') ro σ' a' w' G' Q hry hn hky inv'.up hq) (fun e a w h=>Lift.back inv' mk h)
   |_=>exact⟨ms,σ',G',hq,inv',mk⟩
  ·refine wpIn_mono (ihx Φ ro σ a w G _ hrx hn hkx inv h1) ?_
   rintro e a' w' ⟨ms,σ',G',hq,inv',mk⟩
   cases e with
   |normal=>
    obtain⟨p,hle,hinv⟩:=hq;obtain⟨G2,inv2⟩:=hle.out inv'.up;have inv3:=inv'.down inv'.aF0 inv2 rfl rfl rfl rfl rfl rfl rfl rfl
    have mk2:Marks Φ.w0 w' G2 ms:=by
     obtain⟨Ds,e1,e2,e3⟩:=mk;refine⟨Ds,e1,e2,fun D hD=>?_⟩;obtain⟨q1,q2,q3⟩:=e3 D hD;exact⟨q1,q2,(inv2.mP (w0:=w') (G0:=G') rfl rfl rfl (Array.getElem?_eq_some_iff.1 q2).1 q3).2⟩
    exact wpIn_mono (ihy (Fr.at {Φ with ds:=ms++Φ.ds} w' G2) ro _ a' w' G2 Q hry hn hky inv3.up (h2 p hinv)) (fun e a w h=>Lift.back inv3 mk2 h)
   |_=>exact⟨ms,σ',G',hq,inv',mk⟩
 |cond c x y ihx ihy=>
  intro Φ ro σ a w G Q hro hn hk inv h
  have h':(match σ.ev c with
   | .lit (.bool b)=>branch b (nH T P n x σ Q) (nH T P n y σ Q)
   |_=>False):=h
  have hkx:∀d∈dstsOf x,Φ.keep d=none:=fun d hd=>hk d (aK7.2 (.inl hd));have hky:∀d∈dstsOf y,Φ.keep d=none:=fun d hd=>hk d (aK7.2 (.inr hd))
  have hrx:ro=none\/iC x=true:=hro.imp id fun hh=>Jo;have hry:ro=none\/iC y=true:=hro.imp id fun hh=>IY
  have he:=(inv.ev c).1;split at h'
  ·rename_i b hb
   rw[hb]at he
   cases b with
   |true=>exact wpIn_cond_true he.bH (ihx Φ ro σ a w G Q hrx hn hkx inv h')
   |false=>exact wpIn_cond_false he.bH (ihy Φ ro σ a w G Q hry hn hky inv h')
  ·exact h'.elim
 |block id c ih=>
  intro Φ ro σ a w G Q hro hn hk inv h;refine wpIn_block (wpIn_mono (ih Φ ro σ a w G _ hro hn hk inv h) ?_);rintro e a' w' ⟨ms,σ',G',hq,inv',mk⟩
  cases e with
  |exit i=>
   have hq':cond (Nat.beq i id) (Q .normal σ') (Q (.exit i) σ'):=hq;show Exit.inBlock id (Lift T Φ Q) (.exit i) a' w';by_cases hi:i=id
   ·subst hi
    have hb:Nat.beq i i=true:=Nat.beq_refl i;rw[hb]at hq';simp only[Exit.inBlock,if_true];exact⟨ms,σ',G',hq',inv',mk⟩
   ·have hb:Nat.beq i id=false:=by rw[<-Bool.not_eq_true,Nat.beq_eq];exact hi
    rw[hb]at hq';simp only[Exit.inBlock,if_neg hi];exact⟨ms,σ',G',hq',inv',mk⟩
  |_=>exact⟨ms,σ',G',hq,inv',mk⟩
 |loop c ih=>
  intro Φ ro σ a w G Q hro hn hk inv h;have h':bI0 T (nH T P n c) σ Q:=h;replace h':=h'.out;obtain⟨L,⟨p0,hle0,hi0⟩,hround⟩:=h';obtain⟨G0,inv0⟩:=hle0.out inv;refine wpIn_loop_ghost (fun n a w=>∃p ms G,L.m p=n/\L.inv p/\Inv T {Φ with ds:=ms++Φ.ds} (L.st p) a w G/\Marks Φ.w0 w G ms) (L.m p0) ⟨p0,[],G0,rfl,hi0,inv0,Marks.nil _ _ _⟩ ?_;rintro n' a' w' ⟨p,ms,G1,rfl,hi,inv1,mk⟩;refine wpIn_mono (ih (Fr.at {Φ with ds:=ms++Φ.ds} w' G1) ro _ a' w' G1 _ hro hn hk inv1.up (hround p hi)) ?_;rintro e a2 w2 hL;obtain⟨ms2,σ',G',hq,inv',mk'⟩:=Lift.back inv1 mk hL
  cases e with
  |normal=>
   obtain⟨p',hle,hi',hm'⟩:=hq;obtain⟨G2,inv2⟩:=hle.out inv'.up;have inv3:=inv'.down inv'.aF0 inv2 rfl rfl rfl rfl rfl rfl rfl rfl
   have mk2:Marks Φ.w0 w2 G2 ms2:=by
    obtain⟨Ds,e1,e2,e3⟩:=mk';refine⟨Ds,e1,e2,fun D hD=>?_⟩;obtain⟨q1,q2,q3⟩:=e3 D hD;exact⟨q1,q2,(inv2.mP (w0:=w2) (G0:=G') rfl rfl rfl (Array.getElem?_eq_some_iff.1 q2).1 q3).2⟩
   exact⟨L.m p',hm',p',ms2,G2,rfl,hi',inv3,mk2⟩
  |_=>exact⟨ms2,σ',G',hq,inv',mk'⟩
 |rangeFunc f ps x y ihx ihy=>
  intro Φ ro σ a w G Q hro hn hk inv h
  have hro':ro=none:=by
   rcases hro with h|h
   ·exact h
   ·cases(h:false=true)
  subst hro'
  have h':(match σ.ev f with
   | .fn g caps=>cond (allR V.still caps) (cond (iC x) (cond (iC y) (cond (allR (fun p=>Nat.blt p n) ps.toList) (aO0 T P f g caps ps.toList (appR ps.toList (appR (dstsOf x) (dstsOf y))) (nH T P n x) (nH T P n y) σ Q) False) False) False) False
   |_=>False):=h
  split at h'
  ·obtain⟨h1,h'⟩:=aT h'
   obtain⟨h2,h'⟩:=aT h';obtain⟨h3,h'⟩:=aT h';obtain⟨h4,h'⟩:=aT h';rw[bT,bT]at h';refine cI6 hn (fun Φ ro σ a w G Q=>ihx Φ ro σ a w G Q (.inr h2)) (fun Φ ro σ a w G Q=>ihy Φ ro σ a w G Q (.inr h3)) (fun p hp=>blt (dY.1 h4 p hp)) ?_ h1 inv h';intro d hd;refine hk d ?_;show d∈appR ps.toList (appR (dstsOf x) (dstsOf y));rw[bT,bT];exact hd
  ·exact h'.elim
 |exit id=>intro Φ ro σ a w G Q _ _ _ inv h;exact wpIn_exit (Lift.of h inv)
 |scope c ih=>
  intro Φ ro σ a w G Q hro hn hk inv h;refine bE2 (wpIn_mono (ih Φ ro σ a w G _ hro hn hk inv h) ?_);rintro e a' w' ⟨ms,σ',G',hq,inv',mk⟩
  cases e with
  |goto l=>exact hq.elim
  |_=>exact⟨ms,σ',G',hq,inv',mk⟩
 |label l=>intro Φ ro σ a w G Q _ _ _ inv h;exact wpIn_label (Lift.of h inv)
 |goto l=>intro Φ ro σ a w G Q _ _ _ inv h;exact(h:False).elim
 |ret=>intro Φ ro σ a w G Q _ _ _ inv h;exact wpIn_ret (Lift.of h inv)
 |refuse s=>intro Φ ro σ a w G Q _ _ _ inv h;exact(h:False).elim
theorem cL7{fn:Func}{R:Ending->World->Prop}{u:FrameMode}(hu:u≠ .run){tmps:Array Value}:∀(ms:List Deferred) (w:World),Inv T Φ σ a w G->Φ.ds=[]->a.tmps=tmps->Marks Φ.w0 w G ms->(∀w',Inv T Φ σ a w' G->LeavesInM (FW none) 0 P fn tmps R [] u w')->LeavesInM (FW none) 0 P fn tmps R ms u w:=by
 intro ms
 induction ms with
 |nil=>intro w inv _ _ _ h;exact h w inv
 |cons d ms ih=>
  intro w inv h0 ht mk h;obtain⟨Ds,e1,e2,e3⟩:=mk
  cases Ds with
  |nil=>cases e1
  |cons D Ds=>
   rw[List.map_cons]at e1;injection e1 with e0 e1;subst e0;obtain⟨q1,q2,q3⟩:=e3 D Ae;refine⟨hu, .inl ⟨D,_,rfl,run_takeDeferred q2,?_⟩⟩;refine ih _ (inv.quiet (aF9 q3 q1)) h0 ht ⟨Ds,e1,(List.nodup_cons.1 e2).2,fun D' hD'=>?_⟩ h
   obtain⟨r1,r2,r3⟩:=e3 D' (List.mem_cons_of_mem _ hD');exact⟨r1,(World.putObj_heap_other (fun e=>(List.nodup_cons.1 e2).1 (by rw[<-e];exact hD'))).trans r2,r3⟩
theorem wM(hT:bP T P)(hm:P.follows .mixedOrders=true){f:FuncId}{fn:Func}{c:Code}{args:Array Value}{Q:Exit->St->Prop}{R:Ending->World->Prop}(hf:P.funcs[f]? =some fn)(hb:fn.body=some c)(hd:Φ.ds=[])(hk:Φ.keep=fun _=>none)(hn:Φ.n=fn.ntmps)
 (inv:Inv T Φ σ {tmps:=args++Array.replicate (fn.ntmps-args.size) undef,defers:=[]} w G)(h:nH T P fn.ntmps c σ Q)
 (fin:∀(e:Exit) (σ':St) (a':Act) (w':World) (G':Gh),Q e σ'->Inv T Φ σ' a' w' G'->(e= .normal\/e= .ret)/\∃v,(results fn a'.tmps).run P w'= .ok v w'/\R (.returned v) w'):Calls P f args w R:=by
 refine bD0.1 (callsIn_of_wp_marks (F:=FW none) hf hb trivial (wpIn_mono (cZ2 hT hm c Φ none σ _ w G Q (.inl rfl) hn (fun d _=>by rw[hk]) inv h) ?_) rfl)
 rintro e a' w' ⟨ms,σ',G',hq,inv',mk⟩;have inv2:Inv T Φ σ' {a' with defers:=[]} w' G':=inv'.aQ1 [] rfl rfl rfl rfl rfl rfl hd (fun s v hs=>by rw[hk]at hs;cases hs)
 have hds:a'.defers=ms:=by
  have:=inv'.nd;rw[hd]at this;simpa using this
 obtain⟨he,_⟩:=fin e σ' _ w' G' hq inv2
 have done:LeavesInM (FW none) 0 P fn a'.tmps R a'.defers .returning w':=by
  rw[hds];refine cL7 Ae ms w' inv2 hd rfl mk fun w2 inv3=>?_;exact(fin e σ' _ w2 G' hq inv3).2
 rcases he with rfl|rfl
 ·exact done
 ·exact done
theorem gG2{w:World}{G:Gh}{v:Value}{rs:List V}(h:∀q,rs≠ .bot::q):Rr T w G v (.tup rs)=∃vs:Array Value,v= .tuple vs/\vs.size=rs.length/\∀(j:Nat) u y,vs[j]? =some u->rs[j]? =some y->Rb T w G j u y:=by
 unfold Rr;split
 ·rename_i q;cases q;exact absurd rfl (h _)
 ·rename_i q;cases q;rfl
 ·rename_i _ q;exact absurd rfl (q _)
theorem gB6{ar:Nat->Option AE}{ys xs:List V}(h:iQ T ar ys xs):∀q,ys≠ .bot::q:=by
 rintro q rfl
 cases xs with
 |nil=>exact h.elim
 |cons x xr=>exact(h.1:False)
theorem cF9(inv:Inv T Φ σ a w G){xs ys:List V}(hgive:iQ T σ.ar ys xs)(hko:iR xs ys=true)(vs:List Value)(hvs:∀(i:Nat) v x,vs[i]? =some v->xs[i]? =some x->Rv w G v x/\x.ok σ.hasB σ.hasA):
 ∃Gc:Gh,(∀(j:Nat) v y,vs[j]? =some v->ys[j]? =some y->Rb T w Gc j v y)/\(∀b,G.O b= .fz->Gc.O b= .fz)/\(∀b i,Gc.O b≠ .bx i)/\(∀b,Gc.O b≠ .ext->(G.O b= .fz/\Gc.O b= .fz)\/∃k,G.O b= .ar k):=by
 obtain⟨hlen,hg⟩:=qM hgive;simp only[iR,Bool.and_eq_true]at hko;have hnd:=uU.1 hko.1
 have hdisj:∀k∈bD ys xs,k∉bK ys xs:=fun k hk hm=>by
  have:=dY.1 hko.2 k hk;rw[pM.2 hm]at this;simp at this
 generalize hok:bD ys xs=ok at*;generalize hvk:bK ys xs=vk at*
 let pos:Nat->Nat:=fun k=> @dite _ (∃j,zW xs ys j k) (Classical.propDecidable _) (fun h=>h.choose) (fun _=>0)
 have hpos:∀ {j k},zW xs ys j k->pos k=j:=by
  intro j k hp;exact LY
 let Gc:Gh:={G with O:=fun b=>match G.O b with| .fz=> .fz| .ar k=>if k∈vk then .fz else if k∈ok then .ar (pos k)else .ext|_=> .ext}
 have c_fz:∀b,G.O b= .fz->Gc.O b= .fz:=fun b hb=>BF;have c_bx:∀b i,G.O b= .bx i->Gc.O b= .ext:=fun b i hb=>BF
 have c_ext:∀b,G.O b= .ext->Gc.O b= .ext:=fun b hb=>BF;have c_vk:∀b k,G.O b= .ar k->k∈vk->Gc.O b= .fz:=fun b k hb hk=>Eh
 have c_ok:∀b k,G.O b= .ar k->k∈ok->Gc.O b= .ar (pos k):=fun b k hb hk=>Jp;have hkc:Keep w w G Gc:=⟨c_fz,fun _ _=>rfl⟩
 refine⟨Gc,?_,c_fz,?_,?_⟩
 ·intro j v y hv hy
  have hj:j<xs.length:=D5;have hx:xs[j]? =some xs[j] :=List.getElem?_eq_getElem hj
  obtain⟨e1,e2⟩:=hvs j v _ hv hx;refine aJ2 inv hkc (hg j _ y hx hy) e1 e2 (fun hl k hk b hb=>?_) (fun hl k hk b hb=>?_)
  ·exact c_vk b k hb EC
  ·have hkok:k∈ok:=by rw[<-hok];exact oZ.2 ⟨j,_,y,hx,hy,hl,hk⟩
   rw[c_ok b k hb hkok,hpos ⟨_,y,hx,hy,hl,hk⟩]
 ·intro b i hb
  cases hO:G.O b with
  |ext=>rw[c_ext b hO]at hb;cases hb
  |fz=>rw[c_fz b hO]at hb;cases hb
  |bx j=>rw[c_bx b j hO]at hb;cases hb
  |ar k=>
   by_cases h1:k∈vk
   ·rw[c_vk b k hO h1]at hb;cases hb
   ·by_cases h2:k∈ok
    ·rw[c_ok b k hO h2]at hb;cases hb
    ·have:Gc.O b= .ext:=by simp only[Gc];rw[hO];simp[h1,h2]
     rw[this]at hb;cases hb
 ·intro b hb
  cases hO:G.O b with
  |ext=>exact absurd (c_ext b hO) hb
  |fz=>exact .inl ⟨rfl,c_fz b hO⟩
  |bx j=>exact absurd (c_bx b j hO) hb
  |ar k=>exact .inr ⟨k,rfl⟩
def aE3(a:Act):ResultVar->Sem Value
 | .tmp t=>pure (a.tmps.getD t undef)
 | .cell b t=>do loadVar t (<-asAddr (a.tmps.getD b undef))
theorem aQ5(hT:bP T P)(inv:Inv T Φ σ a w G):∀(rs:List ResultVar) (K:List V->Prop),aH3 T σ rs K->
 ∃(xs:List V) (vs:List Value),K xs/\vs.length=xs.length/\vs.length=rs.length/\(∀(i:Nat) v x,vs[i]? =some v->xs[i]? =some x->Rv w G v x/\x.ok σ.hasB σ.hasA)/\
  (rs.mapM (aE3 a)).run P w= .ok vs w:=by
 intro rs
 induction rs with
 |nil=>intro K h;exact⟨[],[],h,rfl,rfl,fun i v x hv=>by simp at hv,Ae⟩
 |cons x r ih=>
  intro K h
  have fin:∀(v:V) (u:Value),Rv w G u v->v.ok σ.hasB σ.hasA->(aE3 a x).run P w= .ok u w->(aH3 T σ r fun vs=>K (v::vs))->
   ∃(xs:List V) (vs:List Value),K xs/\vs.length=xs.length/\vs.length=(x::r).length/\(∀(i:Nat) v x,vs[i]? =some v->xs[i]? =some x->Rv w G v x/\x.ok σ.hasB σ.hasA)/\
    ((x::r).mapM (aE3 a)).run P w= .ok vs w:=by
   intro v u hv ho hrun hrest;obtain⟨xs,vs,h1,h2,h3,h4,h5⟩:=ih _ hrest;refine⟨v::xs,u::vs,h1,FH,by simp[h3],?_,?_⟩
   ·intro i u' v' hu hv'
    cases i with
    |zero=>simp at hu hv';subst hu;subst hv';exact⟨hv,ho⟩
    |succ i=>exact h4 i u' v' AL (by simpa using hv')
   ·simp only[List.mapM_cons,Sem.run_bind,hrun,Result.andThen_ok,h5,Sem.run_pure]
  cases x with
  |tmp t=>
   have h':force (σ.env t) (fun v=>aH3 T σ r fun vs=>K (v::vs)):=h;rw[force_eq]at h';exact fin _ _ (inv.env t) (inv.wfE t) (by simp[aE3]) h'
  |cell b t=>
   have h':cond (Nat.blt t (T.n t)) (pW (T.row t) σ (σ.env b) fun v _=>aH3 T σ r fun vs=>K (v::vs)) False:=h;obtain⟨ht,h2⟩:=aT h';obtain⟨ad,v',v,he,hrun,hk,hv,hvo⟩:=cG1 hT inv t (.tmp b) (blt ht) h2;have he':a.tmps.getD b undef= .pointer (some ad):=he
   exact fin v v' hv hvo (by simp only[aE3,he',asAddr,Sem.run_bind,Sem.run_pure,Result.andThen_ok,hrun]) hk
def aI1(vs:List Value):Value:=match vs with| [v] =>v|vs=> .tuple vs.toArray
theorem aD1{fn:Func}{vs:List Value}(h:(fn.results.toList.mapM (aE3 a)).run P w= .ok vs w):
 (results fn a.tmps).run P w= .ok (aI1 vs) w:=by
 have h2:(fn.results.mapM (aE3 a)).run P w= .ok vs.toArray w:=by
  rw[Array.mapM_eq_mapM_toList];simp only[Sem.run_map,h,Result.andThen_ok]
 have h3:(results fn a.tmps)=(do let vs<-fn.results.mapM (aE3 a);pure (if h:vs.size=1 then vs[0]else .tuple vs)):=by
  unfold results;congr 1
 rw[h3];simp only[Sem.run_bind,h2,Result.andThen_ok,Sem.run_pure];congr 1
 match vs with
 | [] =>rfl
 | [v] =>rfl
 |v::u::r=>simp;rfl
theorem lY:∀(ys:List V) (j s:Nat),pF ys j s=if j<=s then(match ys[s-j]? with|some y=>cond (linear y) (.arr s 0) y|none=> .tup [])else .tup [] :=by
 intro ys
 induction ys with
 |nil=>intro j s;show V.tup [] =_;split<;>simp
 |cons y r ih=>
  intro j s;show cond (Nat.beq s j) (cond (linear y) (.arr j 0) y) (pF r (j+1) s)=_;by_cases e:s=j
  ·subst e
   rw[show Nat.beq s s=true from Nat.beq_refl s];simp
  ·exact Ii
theorem gY:∀(ys:List V) (j s:Nat),jK ys j s=if j<=s then(match ys[s-j]? with|some (.own e l)=>some ⟨0, .own,e,l⟩|some (.ap e l)=>some ⟨0, .ap,e,l⟩|_=>none)else none:=by
 intro ys
 induction ys with
 |nil=>intro j s;show none=_;split<;>simp
 |cons y r ih=>
  intro j s;show cond (Nat.beq s j) (match y with| .own e l=>some (⟨0, .own,e,l⟩:AE)| .ap e l=>some ⟨0, .ap,e,l⟩|_=>none) (jK r (j+1) s)=_
  by_cases e:s=j
  ·subst e
   rw[show Nat.beq s s=true from Nat.beq_refl s];simp only[cond_true,Nat.le_refl,if_true,Nat.sub_self,List.getElem?_cons_zero];cases y<;>rfl
  ·exact Ii
theorem eH1(hT:bP T P)(hm:P.follows .mixedOrders=true){f:FuncId}{fn:Func}(hf:P.funcs[f]? =some fn)(hc:callable P f=true){ys:List V}{r:V}(hn:ys.length<=fn.ntmps)(h:fnVC T P fn ys r):Spec T P f ys r:=by
 refine⟨hc,?_⟩;intro w G cs hcs htag hbx hargs hlay;unfold fnVC at h;split at h
 ·rename_i c hb
  let Φ:Fr:=⟨w,fun b=>∃j,G.O b= .ar j,fun b=>G.O b= .fz,fn.ntmps,fun _=>none,fun _=>none,[],fun _=>none⟩
  let G0:Gh:={G with av:=fun k _=>cs.getD k undef}
  have hkeep:Keep w w G G0:=⟨fun _ h=>h,fun _ _=>rfl⟩
  have hrb:∀(j:Nat) y,ys[j]? =some y->Rb T w G j (cs.getD j undef) y:=by
   intro j y hy;exact NE
  have own1:∀ {j u e l},gJ T w G j u e l->u.oneCell'=true:=by
   intro j u e l h;exact Nj
  have cap1:∀ {u l},Rv w G u (.cap l)->u.oneCell'=true:=by
   intro u l h;exact N9
  have inv:Inv T Φ (uD ys) {tmps:=cs++Array.replicate (fn.ntmps-cs.size) undef,defers:=[]} w G0:=by
   constructor
   ·rfl
   ·intro s v h;cases h
   ·exact JU
   ·intro s
    exact KZ
   ·intro s
    exact Lr
   ·intro i cs' hi
    exact KT
   ·intro i cs' hi
    exact KT
   ·intro k en hen
    exact Ll
   ·intro k en hen
    exact Lm
   ·exact htag
   ·intro b i hb;exact absurd hb (hbx b i)
   ·intro b k hb;exact .inr ⟨k,hb⟩
   ·intro b hb;exact .inl hb
   ·intro b hb;exact hb
   ·intro b _ _;rfl
   ·exact Nat.le_refl _
   ·rfl
   ·rfl
   ·rfl
   ·intro j v h;cases h
   ·exact⟨hlay,fun b hb=>⟨htag b D6,fun⟨j,hj⟩=>Ep⟩⟩
   ·intro i b h;cases h
  refine wM hT hm hf hb (Φ:=Φ) rfl rfl rfl inv h ?_
  have fin:∀(e:Exit) (σ:St) (a':Act) (w':World) (G':Gh),dF3 T σ fn.results.toList r->Inv T Φ σ a' w' G'->∃v,(results fn a'.tmps).run P w'= .ok v w'/\∃v0 Gr,(Ending.returned v= .returned v0)/\Rr T w' Gr v0 r/\
   (∀b,G.O b= .fz->Gr.O b= .fz)/\(∀b,Gr.O b≠ .ext->b<w'.heap.size)/\(∀b i,Gr.O b≠ .bx i)/\
   (∀b,Gr.O b≠ .ext->(G.O b= .fz/\Gr.O b= .fz)\/w.heap.size<=b\/∃j,G.O b= .ar j)/\
   (∀b,b<w.heap.size->(∀j,G.O b≠ .ar j)->w'.heap[b]? =w.heap[b]?)/\
   w.heap.size<=w'.heap.size/\w'.os=w.os/\w'.tape=w.tape/\w'.output=w.output:=by
   intro e σ a' w' G' hret inv';rcases hret.out with hret|hret
   rotate_left
   ·obtain⟨xs,vs,hk,hl1,hl2,hvs,hrun⟩:=aQ5 hT inv' _ _ hret
    have hres:=aD1 hrun;refine⟨aI1 vs,hres,aI1 vs,?_⟩
    have frame:(∀b,b<w.heap.size->(∀j,G.O b≠ .ar j)->w'.heap[b]? =w.heap[b]?)/\w.heap.size<=w'.heap.size/\w'.os=w.os/\w'.tape=w.tape/\w'.output=w.output:=
     ⟨fun b hb hj=>inv'.frame b hb (fun⟨j,h⟩=>hj j h),inv'.size,inv'.os,inv'.tape,inv'.output⟩
    split at hk
    ·obtain⟨ys',cs,rfl,rfl,g1,g2⟩:=hk
     obtain⟨v,rfl⟩:∃v,vs=[v] :=List.length_eq_one_iff.1 hl1;obtain⟨hv1,hv2⟩:=hvs 0 v (.agg cs) rfl rfl
     obtain⟨cv,rfl,hl,ho,hc⟩:∃cv:Array Value,v= .agg cv/\cv.size=cs.length/\(∀c∈cv,c.oneCell'=true)/\∀(i:Nat) c x,cv[i]? =some c->cs[i]? =some x->Rv w' G' c x:=by
      cases hv1 with
      |agg cv _ h1 h2 h3=>exact⟨cv,rfl,h1,h2,h3⟩
     have hok:=aH.1 (by simpa only[V.ok]using hv2:V.okL σ.hasB σ.hasA cs)
     obtain⟨Gr,q1,q2,q3,q4⟩:=cF9 inv' g1 g2 cv.toList (fun i u x hu hx=>⟨hc i u x AL hx,hok x (List.mem_of_getElem? hx)⟩);have hlen:=(qM g1).1
     refine⟨Gr,rfl,⟨cv,rfl,Aa,ho,fun j u y hu hy=>q1 j u y AL hy⟩,fun b hb=>q2 b (inv'.F0 b hb),fun b hb=>inv'.tag b ?_,q3,fun b hb=>?_,frame⟩
     ·exact J7
     ·exact H6
    ·exact hk.elim
   obtain⟨xs,vs,hk,hl1,hl2,hvs,hrun⟩:=aQ5 hT inv' _ _ hret;have hres:=aD1 hrun;refine⟨aI1 vs,hres,aI1 vs,?_⟩
   have common:∀(ys':List V),iQ T σ.ar ys' xs->iR xs ys'=true->∃Gr:Gh,(∀(j:Nat) v y,vs[j]? =some v->ys'[j]? =some y->Rb T w' Gr j v y)/\
    (∀b,G.O b= .fz->Gr.O b= .fz)/\(∀b,Gr.O b≠ .ext->b<w'.heap.size)/\(∀b i,Gr.O b≠ .bx i)/\
    (∀b,Gr.O b≠ .ext->(G.O b= .fz/\Gr.O b= .fz)\/w.heap.size<=b\/∃j,G.O b= .ar j):=by
    intro ys' h1 h2;obtain⟨Gc,q1,q2,q3,q4⟩:=cF9 inv' h1 h2 vs hvs;refine⟨Gc,q1,fun b hb=>q2 b (inv'.F0 b hb),fun b hb=>inv'.tag b ?_,q3,fun b hb=>?_⟩
    ·exact J7
    ·exact H6
   have frame:(∀b,b<w.heap.size->(∀j,G.O b≠ .ar j)->w'.heap[b]? =w.heap[b]?)/\w.heap.size<=w'.heap.size/\w'.os=w.os/\w'.tape=w.tape/\w'.output=w.output:=
    ⟨fun b hb hj=>inv'.frame b hb (fun⟨j,h⟩=>hj j h),inv'.size,inv'.os,inv'.tape,inv'.output⟩
   split at hk
   ·rename_i x
    obtain⟨g1,g2,g3⟩:=hk;obtain⟨Gr,q1,q2,q3,q4,q5⟩:=common [r] g1 g2
    match vs,hl1 with
    | [v],_=>
      refine⟨Gr,rfl,?_,q2,q3,q4,q5,frame⟩;exact Mc
   ·rename_i hne
    obtain⟨ys',rfl,g1,g2⟩:=hk;obtain⟨Gr,q1,q2,q3,q4,q5⟩:=common ys' g1 g2;have hlen:=(qM g1).1;refine⟨Gr,rfl,?_,q2,q3,q4,q5,frame⟩;have hnb:∀q,ys'≠ .bot::q:=gB6 g1
    rw[gG2 hnb];refine⟨vs.toArray,?_,by simp[hl1,hlen],fun j u y hu hy=>q1 j u y AL hy⟩
    match vs,xs,hl1 with
    | [],_,_=>rfl
    | [v],[x],_=>exact absurd rfl (hne x)
    |v::u::rr,_,_=>rfl
  intro e σ a' w' G' hq inv';exact KP
 ·exact h.elim
theorem cE4(hT:bP T P)(hm:P.follows .mixedOrders=true){f:FuncId}{fn:Func}(hf:P.funcs[f]? =some fn)(hc:callable P f=true){ys:List V}{r:V}(hn:ys.length<=fn.ntmps){jo:Nat}{eo:TypeId}{lo li:List V}(hjo:jo<8)(hyo:ys[jo]? =some (.own eo li))(h:fnIO T P fn ys r jo eo lo):bE5 T P f ys r jo eo lo:=by
 refine⟨hc,?_⟩;intro w G cs hcs htag hbx hargs hlay;unfold fnIO at h;split at h
 ·rename_i c hb
  let Φ:Fr:=⟨w,fun b=>∃j,G.O b= .ar j,fun b=>G.O b= .fz,fn.ntmps,fun j=>if j=jo then some (cs.getD jo undef)else none,fun _=>none,[],fun _=>none⟩
  let G0:Gh:={G with av:=fun k _=>cs.getD k undef}
  have hkeep:Keep w w G G0:=⟨fun _ h=>h,fun _ _=>rfl⟩
  have hrb:∀(j:Nat) y,ys[j]? =some y->Rb T w G j (cs.getD j undef) y:=by
   intro j y hy;exact NE
  have own1:∀ {j u e l},gJ T w G j u e l->u.oneCell'=true:=by
   intro j u e l h;exact Nj
  have cap1:∀ {u l},Rv w G u (.cap l)->u.oneCell'=true:=by
   intro u l h;exact N9
  have inv:Inv T Φ (uD ys) {tmps:=cs++Array.replicate (fn.ntmps-cs.size) undef,defers:=[]} w G0:=by
   constructor
   ·rfl
   ·intro s v h;cases h
   ·exact JU
   ·intro s
    exact KZ
   ·intro s
    exact Lr
   ·intro i cs' hi
    exact KT
   ·intro i cs' hi
    exact KT
   ·intro k en hen
    exact Ll
   ·intro k en hen
    exact Lm
   ·exact htag
   ·intro b i hb;exact absurd hb (hbx b i)
   ·intro b k hb;exact .inr ⟨k,hb⟩
   ·intro b hb;exact .inl hb
   ·intro b hb;exact hb
   ·intro b _ _;rfl
   ·exact Nat.le_refl _
   ·rfl
   ·rfl
   ·rfl
   ·intro j v h
    have h':(if j=jo then some (cs.getD jo undef)else none)=some v:=h
    split at h'
    ·rename_i e
     subst e;cases h';refine⟨rfl,hjo,?_⟩;show∃en,jK ys 0 j=some en;rw[gY];simp only[Nat.zero_le,if_true,Nat.sub_zero,hyo];exact⟨_,rfl⟩
    ·cases h'
   ·exact⟨hlay,fun b hb=>⟨htag b D6,fun⟨j,hj⟩=>Ep⟩⟩
   ·intro i b h;cases h
  refine wM hT hm hf hb (Φ:=Φ) rfl rfl rfl inv h ?_
  have fin:∀(e:Exit) (σ:St) (a':Act) (w':World) (G':Gh),dC6 T σ fn.results.toList r jo eo lo->Inv T Φ σ a' w' G'->∃v,(results fn a'.tmps).run P w'= .ok v w'/\∃v0 Gr,(Ending.returned v= .returned v0)/\(Rr T w' Gr v0 r/\IoX T jo eo lo cs w' Gr)/\
   (∀b,G.O b= .fz->Gr.O b= .fz)/\(∀b,Gr.O b≠ .ext->b<w'.heap.size)/\(∀b i,Gr.O b≠ .bx i)/\
   (∀b,Gr.O b≠ .ext->(G.O b= .fz/\Gr.O b= .fz)\/w.heap.size<=b\/∃j,G.O b= .ar j)/\
   (∀b,b<w.heap.size->(∀j,G.O b≠ .ar j)->w'.heap[b]? =w.heap[b]?)/\
   w.heap.size<=w'.heap.size/\w'.os=w.os/\w'.tape=w.tape/\w'.output=w.output:=by
   intro e σ a' w' G' hret inv';replace hret:=hret.out;obtain⟨xs,vs,hk,hl1,hl2,hvs,hrun⟩:=aQ5 hT inv' _ _ hret;have hres:=aD1 hrun;refine⟨aI1 vs,hres,aI1 vs,?_⟩;obtain⟨hav0,_,en0,hen0⟩:=inv'.args jo (cs.getD jo undef) (by show(if jo=jo then some (cs.getD jo undef)else none)=_;rw[if_pos rfl])
   have hone:(cs.getD jo undef).oneCell'=true:=by
    have hr:=hrb jo _ hyo;exact own1 hr.2.2
   have hlast:Rv w' G' (cs.getD jo undef) (.arr jo 0)/\(V.arr jo 0).ok σ.hasB σ.hasA:=by
    refine⟨?_,by simp only[V.ok];exact⟨en0,hen0,Nat.zero_le _⟩⟩
    have:=Rv.arr (w:=w') (G:=G') jo 0 (by rw[hav0];exact hone)
    rw[hav0]at this;exact this
   have hvs2:∀(i:Nat) v x,(vs++[cs.getD jo undef])[i]? =some v->(xs++[V.arr jo 0])[i]? =some x->Rv w' G' v x/\x.ok σ.hasB σ.hasA:=by
    intro i v x hv hx;rcases Nat.lt_or_ge i vs.length with hi|hi
    ·rw[List.getElem?_append_left hi]at hv
     rw[List.getElem?_append_left Aa]at hx;exact hvs i v x hv hx
    ·have hi2:i=vs.length:=by
      have:=(List.getElem?_eq_some_iff.1 hv).1;simp at this;omega
     subst hi2;rw[List.getElem?_append_right (Nat.le_refl _)]at hv;rw[List.getElem?_append_right Aa]at hx;rw[Nat.sub_self]at hv;rw[hl1,Nat.sub_self]at hx;simp only[List.getElem?_cons_zero,Option.some.injEq]at hv hx;subst hv;subst hx;exact hlast
   have common:∀(ys':List V),iQ T σ.ar (ys'++[.own eo lo]) (xs++[.arr jo 0])->iR (xs++[.arr jo 0]) (ys'++[.own eo lo])=true->∃Gr:Gh,(∀(j:Nat) v y,vs[j]? =some v->ys'[j]? =some y->Rb T w' Gr j v y)/\IoX T jo eo lo cs w' Gr/\
    (∀b,G.O b= .fz->Gr.O b= .fz)/\(∀b,Gr.O b≠ .ext->b<w'.heap.size)/\(∀b i,Gr.O b≠ .bx i)/\
    (∀b,Gr.O b≠ .ext->(G.O b= .fz/\Gr.O b= .fz)\/w.heap.size<=b\/∃j,G.O b= .ar j):=by
    intro ys' h1 h2;obtain⟨Gc,q1,q2,q3,q4⟩:=cF9 inv' h1 h2 (vs++[cs.getD jo undef]) hvs2;have hlen:=(qM h1).1;simp only[List.length_append,List.length_cons,List.length_nil]at hlen;refine⟨Gc,fun j v y hv hy=>?_,?_,fun b hb=>q2 b (inv'.F0 b hb),fun b hb=>inv'.tag b ?_,q3,fun b hb=>?_⟩
    ·refine q1 j v y ?_ ?_
     ·rw[List.getElem?_append_left (List.getElem?_eq_some_iff.1 hv).1];exact hv
     ·rw[List.getElem?_append_left (List.getElem?_eq_some_iff.1 hy).1];exact hy
    ·have hq:=q1 vs.length (cs.getD jo undef) (.own eo lo) Ae (by rw[List.getElem?_append_right (by omega)];rw[show vs.length-ys'.length=0 by omega];rfl)
     exact⟨hq.2.1,_,hq.2.2⟩
    ·exact J7
    ·exact H6
   have frame:(∀b,b<w.heap.size->(∀j,G.O b≠ .ar j)->w'.heap[b]? =w.heap[b]?)/\w.heap.size<=w'.heap.size/\w'.os=w.os/\w'.tape=w.tape/\w'.output=w.output:=
    ⟨fun b hb hj=>inv'.frame b hb (fun⟨j,h⟩=>hj j h),inv'.size,inv'.os,inv'.tape,inv'.output⟩
   split at hk
   ·rename_i x
    obtain⟨g1,g2,_,g3⟩:=hk;obtain⟨Gr,q1,q0,q2,q3,q4,q5⟩:=common [r] g1 g2;obtain⟨v,rfl⟩:∃v,vs=[v] :=List.length_eq_one_iff.1 hl1;refine⟨Gr,rfl,⟨?_,q0⟩,q2,q3,q4,q5,frame⟩;exact Mc
   ·rename_i hne
    obtain⟨ys',rfl,g1,g2⟩:=hk;rw[bT,bT]at g1 g2;obtain⟨Gr,q1,q0,q2,q3,q4,q5⟩:=common ys' g1 g2;have hlen:=(qM g1).1;simp only[List.length_append,List.length_cons,List.length_nil]at hlen;refine⟨Gr,rfl,⟨?_,q0⟩,q2,q3,q4,q5,frame⟩;have hnb:∀q,ys'≠ .bot::q:=fun q e=>by subst e;exact gB6 g1 (q++[.own eo lo]) rfl
    rw[gG2 hnb];refine⟨vs.toArray,?_,by simp[hl1];omega,fun j u y hu hy=>q1 j u y AL hy⟩
    have hne1:vs.length≠1:=fun h1=>by
     rw[hl1]at h1;obtain⟨x,hx⟩:=List.length_eq_one_iff.1 h1;exact hne x hx
    cases vs with
    |nil=>rfl
    |cons v rr=>
     cases rr with
     |nil=>exact absurd rfl hne1
     |cons u rr=>rfl
  intro e σ a' w' G' hq inv';exact KP
 ·exact h.elim
end
def kW(b:List V):Nat->List V:=
 List.rec (motive:=fun _=>Nat->List V) (fun _=> []) (fun y _ ih t=>cond (linear y) (.arr t 0) y::ih (t+1)) b
def bB3(bs:List (List V)):Nat->Nat->Option (List V):=
 List.rec (motive:=fun _=>Nat->Nat->Option (List V)) (fun _ _=>none) (fun b _ ih j s=>cond (Nat.beq s (100000+j)) (some (kW b (100000*(j+1)))) (ih (j+1) s)) bs
def vT(bs:List (List V)):Nat->Nat->Option AE:=
 List.rec (motive:=fun _=>Nat->Nat->Option AE) (fun _ _=>none) (fun b _ ih j s=>match jK b (100000*(j+1)) s with|some en=>some en|none=>ih (j+1) s) bs
def aG1(ys:List V)(bs:List (List V)):St:=⟨pF ys 0,bB3 bs 0,fun s=>match jK ys 0 s with|some en=>some en|none=>vT bs 0 s⟩
def iP(bs:List (List V)):Nat->List Nat:=List.rec (motive:=fun _=>Nat->List Nat) (fun _=> []) (fun _ _ ih j=>(100000+j)::ih (j+1)) bs
def aT2(bx:Nat->Option (List V))(gs:Grp)(is:List Nat):Bool:=aE7 (ownG gs)&&allR (fun k=> !memR k (mF gs)) (ownG gs)&&allR (fun i=>isS (bx i)) is
structure retB(T:Tab)(σ:St)(rs:List ResultVar)(r:V)(bs:List (List V)):Prop where
 out:aH3 T σ rs fun xs=>match xs with
  | [x] =>xM T σ.ar (iP bs 0) (([x],[r])::eU σ.bx bs (iP bs 0))/\aT2 σ.bx (([x],[r])::eU σ.bx bs (iP bs 0)) (iP bs 0)=true/\(∀rs,r≠ .tup rs)
  |xs=>∃ys,r= .tup ys/\xM T σ.ar (iP bs 0) ((xs,ys)::eU σ.bx bs (iP bs 0))/\aT2 σ.bx ((xs,ys)::eU σ.bx bs (iP bs 0)) (iP bs 0)=true
def jR(T:Tab)(P:Program)(fn:Func)(ys:List V)(bs:List (List V))(r:V)(bs':List (List V)):Prop:=
 match fn.body with
 |some c=>nH T P fn.ntmps c (aG1 ys bs) fun e σ=>match e with
  | .normal=>retB T σ fn.results.toList r bs'
  | .ret=>retB T σ fn.results.toList r bs'
  |_=>False
 |none=>False
section
variable{T:Tab}{P:Program}{Φ:Fr}{σ:St}{a:Act}{w w':World}{G G':Gh}{K:VK}{o:Oper}{d:Nat}
set_option maxHeartbeats 1600000 in
set_option maxHeartbeats 3200000 in
end
def dU6(u' u:Value):Prop:=
 match u with
 | .int k n=>match u' with| .int k' n'=>k'=k/\n'=n|_=>False
 | .bool b=>match u' with| .bool b'=>b'=b|_=>False
 |u=>u'=u
def wk1(ar r:Nat->Option AE)(x y:V):Prop:=
 match y with
 | .bot=>True
 | .lit u=>match x with| .lit u'=>dU6 u' u|_=>False
 | .sl l=>match x with
   | .sl l'=>l'=l
   | .cap l'=>l'=l
   | .lit (.slice none 0 0)=>l=[]
   | .arr k g=>match ar k with
     |some en=>match en.kind with
      | .frz=>en.gen=g/\en.l=l
      |_=>False
     |none=>False
   |_=>False
 | .arr k g=>match x with
   | .arr k' g'=>k'=k/\g'=g
   | .lit (.slice none 0 0)=>match ar k with
     |none=>match r k with
      |some en=>en.gen=g
      |none=>False
     |some _=>False
   |_=>False
 | .box i o=>match x with| .box i' o'=>i'=i/\o'=o|_=>False
 | .cap l=>match x with| .cap l'=>l'=l| .lit (.slice none 0 0)=>l=[] |_=>False
 | .fp l=>match x with| .fp l'=>l'=l|_=>False
 | .fn g l=>match x with| .fn g' l'=>g'=g/\l'=l|_=>False
 | .ae k g z i o=>match x with| .ae k' g' z' i' o'=>k'=k/\g'=g/\z'=z/\i'=i/\o'=o|_=>False
 |_=>False
def wkL(ar r:Nat->Option AE)(ys:List V):List V->Prop:=
 List.rec (motive:=fun _=>List V->Prop) (fun xs=>match xs with| [] =>True|_::_=>False)
  (fun y _ ih xs=>match xs with|x::xr=>wk1 ar r x y/\ih xr| [] =>False) ys
def wkV(ar r:Nat->Option AE)(x y:V):Prop:=
 match y with
 | .agg ys=>match x with| .agg xs=>wkL ar r ys xs|_=>False
 |y=>wk1 ar r x y
def bX7(a b:AK):Prop:=
 match b with
 | .own=>match a with| .own=>True|_=>False
 | .ap=>match a with| .own=>True| .ap=>True|_=>False
 | .frz=>match a with| .frz=>True|_=>False
 | .dead=>match a with| .dead=>True|_=>False
def wkAE(T:Tab)(o:Option AE)(en:AE):Prop:=
 match o with
 |some en0=>en0.gen=en.gen/\bX7 en0.kind en.kind/\en0.ty=en.ty/\en0.l=en.l
 |none=>bX7 .own en.kind/\en.l=[]/\Nat.blt en.ty (T.n en.ty)=true
def wfC1(b:Nat->Option (List V))(x:V):Prop:=
 match x with
 | .box i _=>match b i with|some _=>True|none=>False
 | .fp _=>True
 | .lit _=>True
 |_=>False
def wfC(b:Nat->Option (List V))(l:List V):Prop:=List.rec (motive:=fun _=>Prop) True (fun x _ ih=>wfC1 b x/\ih) l
def wf1(b:Nat->Option (List V))(r:Nat->Option AE)(x:V):Prop:=
 match x with
 | .box i _=>match b i with|some _=>True|none=>False
 | .arr k g=>match r k with|some en=>g<=en.gen|none=>False
 | .ae k g _ _ _=>match r k with|some en=>g<=en.gen|none=>False
 | .fn _ l=>wfC b l
 |_=>True
def wfL(b:Nat->Option (List V))(r:Nat->Option AE)(l:List V):Prop:=List.rec (motive:=fun _=>Prop) True (fun x _ ih=>wf1 b r x/\ih) l
def wfV(b:Nat->Option (List V))(r:Nat->Option AE)(x:V):Prop:=
 match x with
 | .agg cs=>wfL b r cs
 |x=>wf1 b r x
def wkE(σ:St)(b:Nat->Option (List V))(r:Nat->Option AE)(e:List (Nat×V)):Prop:=
 List.rec (motive:=fun _=>Prop) True (fun p _ ih=>(wkV σ.ar r (σ.env p.1) p.2/\wfV b r p.2)/\ih) e
def wkB(σ:St)(b:Nat->Option (List V))(r:Nat->Option AE)(l:List (Nat×List V)):Prop:=
 List.rec (motive:=fun _=>Prop) True (fun p _ ih=>(match σ.bx p.1 with|some cs=>wkL σ.ar r p.2 cs/\wfL b r p.2|none=>False)/\ih) l
def wkA(T:Tab)(σ:St)(l:List (Nat×AE)):Prop:=
 List.rec (motive:=fun _=>Prop) True (fun p _ ih=>wkAE T (σ.ar p.1) p.2/\ih) l
theorem eJ6{u' u:Value}(h:dU6 u' u):u'=u:=by
 unfold dU6 at h;split at h
 ·split at h
  ·obtain⟨rfl,rfl⟩:=h;rfl
  ·exact h.elim
 ·split at h
  ·subst h;rfl
  ·exact h.elim
 ·exact h
section
variable{T:Tab}{Φ:Fr}{σ:St}{a:Act}{w:World}{G:Gh}{b:Nat->Option (List V)}{r:Nat->Option AE}
def xI(σ:St)(G:Gh):Gh:={G with av:=fun k g=>match σ.ar k with|none=> .slice none 0 0|some _=>G.av k g}
theorem bD1(σ:St)(w:World)(G:Gh):Keep w w G (xI σ G):=⟨fun _ h=>h,fun _ _=>rfl⟩
theorem eB6{k g:Nat}(h:σ.hasA k g):(xI σ G).av k g=G.av k g:=by
 obtain⟨en,h,_⟩:=h;simp[xI,h]
theorem eX8{τ:St}{p:Nat->Prop}{q:Nat->Nat->Prop}{l:List V}:wfC τ.bx l->V.okL p q l->V.okL τ.hasB τ.hasA l:=by
 induction l with
 |nil=>intro _ _;simp only[V.okL]
 |cons x r ih=>
  intro h hok;obtain⟨h1,h2⟩:wfC1 τ.bx x/\wfC τ.bx r:=h;simp only[V.okL]at hok⊢;refine⟨?_,ih h2 hok.2⟩;have hx:=hok.1;unfold wfC1 at h1;split at h1
  ·split at h1
   ·rename_i cs hcs;simp only[V.ok];exact⟨cs,hcs⟩
   ·exact h1.elim
  ·simp only[V.ok]at hx⊢;exact hx
  ·simp only[V.ok]
  ·exact h1.elim
theorem aG3(inv:Inv T Φ σ a w G){v:Value}{x y:V}(hx:Rv w G v x)(hok:x.ok σ.hasB σ.hasA)(h:wk1 σ.ar r x y)(hw:wf1 b r y)(τ:St)(hb:τ.bx=b)(hr:τ.ar=r):
 Rv w (xI σ G) v y/\y.ok τ.hasB τ.hasA:=by
 have hx':Rv w (xI σ G) v x:=hx.keep (bD1 σ w G) hok (fun _ _=>rfl) (fun k g h=>eB6 h);subst hb hr;unfold wk1 at h;split at h
 ·exact⟨.bot v,AY⟩
 ·split at h
  ·cases eJ6 h;exact⟨hx',AY⟩
  ·exact h.elim
 ·split at h
  ·subst h;exact⟨hx',BO⟩
  ·subst h;exact⟨hx'.wK,BO⟩
  ·subst h
   have:=hx.bH;subst this;exact⟨.slN,CW⟩
  ·split at h
   ·rename_i k g _ en hen
    split at h
    ·rename_i hkd
     obtain⟨rfl,rfl⟩:=h;have ha:=inv.arr k en hen;unfold gW at ha;rw[hkd]at ha;have hp:=inv.wfA k en hen
     have hps:(V.sl en.l).pure:=Am;have hv:=hx.oQ
     rw[hv];exact⟨(ha:Rv w G _ _).aW (bD1 σ w G) hps,by simp only[V.ok];exact hp⟩
    ·exact h.elim
   ·exact h.elim
  ·exact h.elim
 ·rename_i k g
  have hwr:τ.hasA k g:=Jt;split at h
  ·obtain⟨rfl,rfl⟩:=h
   exact⟨hx',EP⟩
  ·split at h
   ·rename_i hnone
    split at h
    ·have hv:=hx.bH
     subst hv;have e:(xI σ G).av k g= .slice none 0 0:=by simp[xI,hnone]
     rw[<-e];exact⟨.arr k g (by rw[e];rfl),EP⟩
    ·exact h.elim
   ·exact h.elim
  ·exact h.elim
 ·split at h
  ·obtain⟨rfl,rfl⟩:=h
   refine⟨hx',?_⟩;unfold wf1 at hw;simp only at hw;split at hw
   ·rename_i cs hcs;simp only[V.ok];exact⟨cs,hcs⟩
   ·exact hw.elim
  ·exact h.elim
 ·split at h
  ·subst h;exact⟨hx',BO⟩
  ·subst h
   have:=hx.bH;subst this;exact⟨.capN,CW⟩
  ·exact h.elim
 ·split at h
  ·subst h;exact⟨hx',BO⟩
  ·exact h.elim
 ·split at h
  ·obtain⟨rfl,rfl⟩:=h
   refine⟨hx',?_⟩;simp only[V.ok]at hok⊢;exact eX8 (τ:=τ) hw hok
  ·exact h.elim
 ·rename_i k g z i o
  have hwr:τ.hasA k g:=Jt;split at h
  ·obtain⟨rfl,rfl,rfl,rfl,rfl⟩:=h
   exact⟨hx',EP⟩
  ·exact h.elim
 ·exact h.elim
theorem bL3{ar:Nat->Option AE}{ys:List V}:∀ {xs:List V},wkL ar r ys xs->wfL b r ys->xs.length=ys.length/\∀(i:Nat) x y,xs[i]? =some x->ys[i]? =some y->wk1 ar r x y/\wf1 b r y:=by
 induction ys with
 |nil=>
  intro xs h _
  cases xs with
  |nil=>exact⟨rfl,fun i x y hx=>Gu⟩
  |cons x xr=>exact(h:False).elim
 |cons y yr ih=>
  intro xs h hw
  cases xs with
  |nil=>exact(h:False).elim
  |cons x xr=>
   obtain⟨h1,h2⟩:=(h:wk1 ar r x y/\wkL ar r yr xr);obtain⟨w1,w2⟩:=(hw:wf1 b r y/\wfL b r yr);obtain⟨q1,q2⟩:=ih h2 w2;refine⟨by simp[q1],fun i x' y' hx hy=>?_⟩
   cases i with
   |zero=>simp at hx hy;subst hx hy;exact⟨h1,w1⟩
   |succ i=>simp at hx hy;exact q2 i x' y' hx hy
theorem bT8(inv:Inv T Φ σ a w G){v:Value}{x y:V}(hx:Rv w G v x)(hok:x.ok σ.hasB σ.hasA)(h:wkV σ.ar r x y)(hw:wfV b r y)(τ:St)(hb:τ.bx=b)(hr:τ.ar=r):
 Rv w (xI σ G) v y/\y.ok τ.hasB τ.hasA:=by
 unfold wkV at h;split at h
 ·rename_i ys
  split at h
  ·rename_i xs
   obtain⟨q1,q2⟩:=bL3 h hw;obtain⟨cs,rfl,hl,ho,hrel⟩:=hx.zV;simp only[V.ok]at hok
   have each:∀(i:Nat) c y,cs[i]? =some c->ys[i]? =some y->Rv w (xI σ G) c y/\y.ok τ.hasB τ.hasA:=by
    intro i c y hc hy;have hi:i<xs.length:=DR;have hxi:xs[i]? =some xs[i] :=ED
    obtain⟨k1,k2⟩:=q2 i xs[i] y hxi hy;exact aG3 inv (hrel i c xs[i] hc hxi) (aH.1 hok _ (List.getElem_mem hi)) k1 k2 τ hb hr
   refine⟨.agg cs ys Aa ho fun i c y hc hy=>(each i c y hc hy).1,?_⟩;simp only[V.ok];rw[aH];intro y hy;obtain⟨i,hi⟩:=List.getElem?_of_mem hy;have hlt:i<cs.size:=by rw[hl,q1];exact(List.getElem?_eq_some_iff.1 hi).1
   exact(each i cs[i] y Gy hi).2
  ·exact h.elim
 ·rename_i hna
  refine aG3 inv hx hok h ?_ τ hb hr;unfold wfV at hw;split at hw
  ·exact(hna _ rfl).elim
  ·exact hw
theorem dT6{α:Type}{dflt:α}{l:List (Nat×α)}(s:Nat):ofL dflt l s=dflt\/∃p∈l,p.1=s/\ofL dflt l s=p.2:=by
 induction l with
 |nil=>exact .inl rfl
 |cons p q ih=>
  have hd:ofL dflt (p::q) s=cond (Nat.beq s p.1) p.2 (ofL dflt q s):=rfl;rw[hd]
  cases hb:Nat.beq s p.1 with
  |true=>exact .inr ⟨p,Ae,(Nat.eq_of_beq_eq_true hb).symm,rfl⟩
  |false=>
   rcases ih with h|⟨p',hp,h1,h2⟩
   ·exact .inl h
   ·exact .inr ⟨p',by simp[hp],h1,h2⟩
theorem aF5{α:Type}{l:List (Nat×α)}{s:Nat}{x:α}(h:ofO l s=some x):∃p∈l,p.1=s/\p.2=x:=by
 induction l with
 |nil=>cases h
 |cons p q ih=>
  have hd:ofO (p::q) s=cond (Nat.beq s p.1) (some p.2) (ofO q s):=rfl;rw[hd]at h
  cases hb:Nat.beq s p.1 with
  |true=>rw[hb]at h;exact⟨p,Ae,(Nat.eq_of_beq_eq_true hb).symm,by simpa using h⟩
  |false=>
   rw[hb]at h;obtain⟨p',hp,h1,h2⟩:=ih h;exact⟨p',by simp[hp],h1,h2⟩
theorem cP0{e:List (Nat×V)}(h:wkE σ b r e):∀p∈e,wkV σ.ar r (σ.env p.1) p.2/\wfV b r p.2:=by
 induction e with
 |nil=>intro p hp;cases hp
 |cons q l ih=>
  obtain⟨h1,h2⟩:=(h:(wkV σ.ar r (σ.env q.1) q.2/\wfV b r q.2)/\wkE σ b r l);intro p hp;exact Nl
theorem cF4{l:List (Nat×List V)}(h:wkB σ b r l):∀p∈l,∃cs,σ.bx p.1=some cs/\wkL σ.ar r p.2 cs/\wfL b r p.2:=by
 induction l with
 |nil=>intro p hp;cases hp
 |cons q l ih=>
  obtain⟨h1,h2⟩:=(h:(match σ.bx q.1 with|some cs=>wkL σ.ar r q.2 cs/\wfL b r q.2|none=>False)/\wkB σ b r l)
  intro p hp;rcases List.mem_cons.1 hp with rfl|hp
  ·split at h1
   ·rename_i cs hcs;exact⟨cs,hcs,h1⟩
   ·exact h1.elim
  ·exact ih h2 p hp
theorem cO0{l:List (Nat×AE)}(h:wkA T σ l):∀p∈l,wkAE T (σ.ar p.1) p.2:=by
 induction l with
 |nil=>intro p hp;cases hp
 |cons q l ih=>
  obtain⟨h1,h2⟩:=(h:wkAE T (σ.ar q.1) q.2/\wkA T σ l);intro p hp;exact Nl
theorem cR3(inv:Inv T Φ σ a w G){k:Nat}{en0 en:AE}(h0:σ.ar k=some en0)(h1:en0.gen=en.gen)(h2:bX7 en0.kind en.kind)(h3:en0.ty=en.ty)(h4:en0.l=en.l):gW T w G k en:=by
 have ha:=inv.arr k en0 h0;obtain⟨g0,k0,t0,l0⟩:=en0;obtain⟨g,kd,t,l⟩:=en;simp only at h1 h2 h3 h4;subst h1 h3 h4;cases kd<;>cases k0<;>simp only[bX7]at h2<;>first|exact h2.elim|exact trivial|exact ha|skip
 unfold gW at ha⊢;exact⟨ha.1, .inl ha.2⟩
def has8(o p:Option AE):Prop:=match o with|none=>True|some _=>(match p with|some _=>True|none=>False)
def aN5(o p:Option (List V)):Prop:=match o with|none=>True|some _=>(match p with|some _=>True|none=>False)
def wk8b(ar r:Nat->Option (List V)):Prop:=aN5 (ar 100000) (r 100000)/\aN5 (ar 100001) (r 100001)/\aN5 (ar 100002) (r 100002)/\aN5 (ar 100003) (r 100003)/\aN5 (ar 100004) (r 100004)/\aN5 (ar 100005) (r 100005)/\aN5 (ar 100006) (r 100006)/\aN5 (ar 100007) (r 100007)
theorem dS5{ar r:Nat->Option (List V)}(h:wk8b ar r){j:Nat}(hj:100000<=j/\j<100008){en:List V}(he:ar j=some en):∃en',r j=some en':=by
 have key:∀ {o p:Option (List V)},aN5 o p->o=some en->∃en',p=some en':=by
  intro o p h ho;exact MW
 obtain⟨h0,h1,h2,h3,h4,h5,h6,h7⟩:=h;have hj':j=100000\/j=100001\/j=100002\/j=100003\/j=100004\/j=100005\/j=100006\/j=100007:=Aa;rcases hj' with rfl|rfl|rfl|rfl|rfl|rfl|rfl|rfl
 ·exact key h0 he
 ·exact key h1 he
 ·exact key h2 he
 ·exact key h3 he
 ·exact key h4 he
 ·exact key h5 he
 ·exact key h6 he
 ·exact key h7 he
def wk8(ar r:Nat->Option AE):Prop:=has8 (ar 0) (r 0)/\has8 (ar 1) (r 1)/\has8 (ar 2) (r 2)/\has8 (ar 3) (r 3)/\has8 (ar 4) (r 4)/\has8 (ar 5) (r 5)/\has8 (ar 6) (r 6)/\has8 (ar 7) (r 7)
theorem dT9{ar r:Nat->Option AE}(h:wk8 ar r){j:Nat}(hj:j<8){en:AE}(he:ar j=some en):∃en',r j=some en':=by
 have key:∀ {o p:Option AE},has8 o p->o=some en->∃en',p=some en':=by
  intro o p h ho;exact MW
 obtain⟨h0,h1,h2,h3,h4,h5,h6,h7⟩:=h
 match j,hj with
 |0,_=>exact key h0 he
 |1,_=>exact key h1 he
 |2,_=>exact key h2 he
 |3,_=>exact key h3 he
 |4,_=>exact key h4 he
 |5,_=>exact key h5 he
 |6,_=>exact key h6 he
 |7,_=>exact key h7 he
theorem dV{e:List (Nat×V)}{lb:List (Nat×List V)}{lr:List (Nat×AE)}(h8:wk8 σ.ar (ofO lr)/\wk8b σ.bx (ofO lb))(hA:wkA T σ lr)(hB:wkB σ (ofO lb) (ofO lr) lb)(hE:wkE σ (ofO lb) (ofO lr) e):Le T σ (mkSt e lb lr):=by
 unfold Le;intro Φ a w G inv;have bot:∀s,(mkSt e lb lr).env s= .bot\/∃p∈e,p.1=s/\(mkSt e lb lr).env s=p.2:=fun s=>dT6 s;have hav:∀k g,σ.hasA k g->(xI σ G).av k g=G.av k g:=fun k g h=>eB6 h
 refine⟨xI σ G,?_⟩;refine {nd:=inv.nd,kp:=inv.kp,sz:=inv.sz,env:= ?_,wfE:= ?_,box:= ?_,wfB:= ?_,arr:= ?_,wfA:= ?_,tag:=inv.tag,mineB:=inv.mineB,mineA:=inv.mineA,fzm:=inv.fzm,F0:=inv.F0,lay:=inv.lay,frame:=inv.frame,size:=inv.size,os:=inv.os,tape:=inv.tape,output:=inv.output,args:=fun j v h=>⟨(hav j 0 ⟨_,(inv.args j v h).2.2.choose_spec,Nat.zero_le _⟩).trans (inv.args j v h).1,(inv.args j v h).2.1,dT9 h8.1 (inv.args j v h).2.1 (inv.args j v h).2.2.choose_spec⟩,argb:=fun i bk h=>⟨(inv.argb i bk h).1,(inv.argb i bk h).2.1,dS5 h8.2 (inv.argb i bk h).2.1 (inv.argb i bk h).2.2.choose_spec⟩}
 ·intro s
  rcases bot s with h|⟨p,hp,rfl,h⟩
  ·rw[h];exact .bot _
  ·rw[h]
   obtain⟨h1,h2⟩:=cP0 hE p hp;exact(bT8 inv (inv.env p.1) (inv.wfE p.1) h1 h2 (mkSt e lb lr) rfl rfl).1
 ·intro s
  rcases bot s with h|⟨p,hp,rfl,h⟩
  ·rw[h];simp only[V.ok]
  ·rw[h]
   obtain⟨h1,h2⟩:=cP0 hE p hp;exact(bT8 inv (inv.env p.1) (inv.wfE p.1) h1 h2 (mkSt e lb lr) rfl rfl).2
 ·intro i cs hi
  obtain⟨p,hp,rfl,rfl⟩:=aF5 hi;obtain⟨cs0,hcs0,h1,h2⟩:=cF4 hB p hp;obtain⟨c,t,g1,g2,g3⟩:=inv.box p.1 cs0 hcs0;obtain⟨q1,q2⟩:=bL3 h1 h2;refine⟨c,t,g1,⟨by rw[g2.len,q1],g2.one,fun i v y hv hy=>?_⟩,g3⟩
  have hlt:i<cs0.length:=DR;have hxi:cs0[i]? =some cs0[i] :=Gy
  obtain⟨k1,k2⟩:=q2 i cs0[i] y hxi hy;exact(aG3 inv (g2.rel i v cs0[i] hv hxi) (aH.1 (inv.wfB p.1 cs0 hcs0) _ (List.getElem_mem hlt)) k1 k2 (mkSt e lb lr) rfl rfl).1
 ·intro i cs hi
  obtain⟨p,hp,rfl,rfl⟩:=aF5 hi;obtain⟨cs0,hcs0,h1,h2⟩:=cF4 hB p hp;obtain⟨c,t,g1,g2,g3⟩:=inv.box p.1 cs0 hcs0;obtain⟨q1,q2⟩:=bL3 h1 h2;rw[aH];intro y hy;obtain⟨i,hi'⟩:=List.getElem?_of_mem hy;have hlt:i<cs0.length:=by rw[q1];exact(List.getElem?_eq_some_iff.1 hi').1
  have hxi:cs0[i]? =some cs0[i] :=Gy;have hlc:i<c.toList.length:=by rw[g2.len];exact hlt
  obtain⟨k1,k2⟩:=q2 i cs0[i] y hxi hi';exact(aG3 inv (g2.rel i c.toList[i] cs0[i] Ae hxi) (aH.1 (inv.wfB p.1 cs0 hcs0) _ (List.getElem_mem hlt)) k1 k2 (mkSt e lb lr) rfl rfl).2
 ·intro k en hk
  obtain⟨p,hp,rfl,rfl⟩:=aF5 hk;have h:=cO0 hA p hp;unfold wkAE at h;split at h
  ·rename_i en0 h0
   have hok:=cR3 inv h0 h.1 h.2.1 h.2.2.1 h.2.2.2;refine hok.keep (bD1 σ w G) ?_ ?_ (fun b hb=>⟨hb,rfl⟩)
   ·rw[<-h.2.2.2];exact inv.wfA _ _ h0
   ·exact hav _ _ ⟨en0,h0,Aa⟩
  ·rename_i h0
   obtain⟨h1,h2,h3⟩:=h;have hnil:(xI σ G).av p.1 p.2.gen= .slice none 0 0:=by simp[xI,h0]
   have hlt:=blt h3;unfold gW;split
   ·rw[h2];trivial
   ·rename_i hkd;rw[hkd]at h1;exact h1.elim
   ·rw[hnil,h2];exact⟨hlt, .inl ⟨.inl rfl,rfl⟩⟩
   ·rw[hnil,h2];exact⟨hlt, .inl (.inl ⟨.inl rfl,rfl⟩)⟩
 ·intro k en hk
  obtain⟨p,hp,rfl,rfl⟩:=aF5 hk;have h:=cO0 hA p hp;unfold wkAE at h;split at h
  ·rename_i en0 h0
   rw[<-h.2.2.2];exact inv.wfA _ _ h0
  ·rw[h.2.1];simp only[V.okL]
end
end Go.Ab
