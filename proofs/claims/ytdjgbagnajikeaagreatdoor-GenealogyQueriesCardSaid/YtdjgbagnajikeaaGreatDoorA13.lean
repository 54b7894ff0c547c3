/-
  Code and functions.
-/
import Derived.Test.YtdjgbagnajikeaaGreatDoorA12
set_option linter.unusedVariables false
set_option linter.unusedSimpArgs false
noncomputable section
namespace Go.Ab
section
variable{T:Tab}{P:Program}{Φ:Fr}{σ:St}{a:Act}{w w':World}{G G':Gh}{K:VK}{o:Oper}{d:Nat}
theorem aS6{light:Md}{n:Nat}{ops:List Oper}{K:St->Prop}:∀(l:List Oper) (σ:St),aY0 T P light n ops l σ.env σ.bx σ.ar K->Run T P light n ops l σ K:=by
 intro l
 induction l with
 |nil=>intro σ h;exact h
 |cons o r ih=>
  intro σ h;have h':bH0 T P light n ops o (aY0 T P light n ops r) σ.env σ.bx σ.ar K:=h;exact(aX6 h').mono (fun _ _ _ hk=>aR8 hk) (fun σ' hk=>ih σ' hk)
theorem aK7{α:Type}{l m:List α}{x:α}:x∈appR l m↔x∈l\/x∈m:=by rw[bT,List.mem_append]
theorem wpIn_loop_ghost{F:Fence}{n:Nat}{Q:Exit->Act->World->Prop}{c:Code}(I:Nat->Act->World->Prop)(n₀:Nat)(h₀:I n₀ a w)
 (round:∀n' a w,I n' a w->c.wpIn F n P (Exit.then (fun a' w'=>∃n2,n2<n'/\I n2 a' w') Q) a w):(Code.loop c).wpIn F n P Q a w:=by
 refine wpIn_loop (fun a w=>∃n,I n a w) (fun a w=>leastOf (fun n=>I n a w)) ⟨n₀,h₀⟩ ?_;intro a w hI;refine wpIn_mono (round _ a w (leastOf_spec hI).1) ?_;intro e a' w' hq
 cases e with
 |normal=>
  obtain⟨n',hlt,hI'⟩:=hq;exact show(∃n,I n a' w')/\leastOf (fun n=>I n a' w')<leastOf (fun n=>I n a w)from⟨⟨n',hI'⟩,Nat.lt_of_le_of_lt ((leastOf_spec ⟨n',hI'⟩).2 n' hI') hlt⟩
 |exit id=>exact hq
 |goto l=>exact hq
 |ret=>exact hq
 |panic ch=>exact hq
 |outgrown=>exact hq
theorem oK{b:Frame}{k:List Item}{cs:List Frame}{c:Code}:step P (lone (b.atR a (.code (.scope c)::k)) cs w)= .next (lone (b.atR a (.code c:: .inScope c::k)) cs w):=
 step_lone_go (by simp[stepG,stepG.exec,Frame.atR])
theorem bN3{b:Frame}{k:List Item}{cs:List Frame}{c:Code}:step P (lone (b.atR a (.inScope c::k)) cs w)= .next (lone (b.atR a k) cs w):=
 step_lone_go (by simp[stepG,stepG.exec,Frame.atR])
theorem bE2{F:Fence}{n:Nat}{c:Code}{Q:Exit->Act->World->Prop}(h:c.wpIn F n P (fun e a w=>match e with| .goto _=>False|e=>Q e a w) a w):(Code.scope c).wpIn F n P Q a w:=by
 intro b k cs hro hb hr;have h0:(lone (b.atR a (.code (.scope c)::k)) cs w).fenced P F:=fenced_calm hb hr rfl;obtain⟨e,a₁,w₁,hq,harr⟩:=h b (.inScope c::k) cs hro hb hr
 cases e with
 |normal=>exact⟨.normal,a₁,w₁,hq, .head h0 oK (StepsIn.trans harr (.one (fenced_calm hb hr rfl) bN3))⟩
 |exit id'=>
  have hx:exitTo id' (.inScope c::k)=exitTo id' k:=by simp[exitTo]
  exact⟨.exit id',a₁,w₁,hq,fun k' hk=> .head h0 oK (harr.1 k' (by rw[hx];exact hk)),
   fun hr' hk=>let⟨k₁,h1,h2⟩:=harr.2 hr' (by rw[hx];exact hk);⟨k₁,h1, .head h0 oK h2⟩⟩
 |goto l=>exact hq.elim
 |ret=>exact⟨_,a₁,w₁,hq, .of_steps (.one h0 oK) harr⟩
 |panic ch=>exact⟨_,a₁,w₁,hq, .of_steps (.one h0 oK) harr⟩
 |outgrown=>exact⟨_,a₁,w₁,hq, .of_steps (.one h0 oK) harr⟩
theorem cZ2(hT:bP T P)(hm:P.follows .mixedOrders=true){n:Nat}(c:Code):∀(Φ:Fr) (ro:Option Nat) (σ:St) (a:Act) (w:World) (G:Gh) (Q:Exit->St->Prop),(ro=none\/iC c=true)->Φ.n=n->(∀d∈dstsOf c,Φ.keep d=none)->Inv T Φ σ a w G->nH T P n c σ Q->c.wpIn (FW ro) 0 P (Lift T Φ Q) a w:=by
 induction c with
 |skip=>intro Φ ro σ a w G Q _ _ _ inv h;exact wpIn_skip (Lift.of h inv)
 |region id ops draw=>
  intro Φ ro σ a w G Q _ hn hk inv h;subst hn;have hk':∀o∈ops.toList,∀d,o.dst=some d->Φ.keep d=none:=fun o ho d hd=>hk d (dP9 ho hd);obtain⟨env,bx,ar⟩:=σ
  cases draw with
  |false=>
   have h':aY0 T P .free Φ.n ops.toList ops.toList env bx ar (Q .normal):=h;have hr:=aS6 ops.toList ⟨env,bx,ar⟩ h'
   exact wpIn_region_list (eB0 hT rfl ro (fun σ' a' w' G' hk inv'=>Lift.of hk inv') ops.toList _ a w G hk' inv hr)
  |true=>
   have h':aC9 T env ops.toList (fun hv=>aY0 T P (.drawn hv) Φ.n ops.toList ops.toList env bx ar (Q .normal)):=h;replace h':=h'.out;obtain⟨cl,hv,h0,h1,h2⟩:=h';have hr:=aS6 ops.toList ⟨env,bx,ar⟩ h2
   exact bC4 hT ro hm rfl hk' h1 (dC3 inv.wfE h0) (fun σ' a' w' G' hk inv'=>Lift.of hk inv') id inv hr
 |seq x y ihx ihy=>
  intro Φ ro σ a w G Q hro hn hk inv h;have h':dG2 T (nH T P n x) (nH T P n y) σ Q:=h;replace h':=h'.out;have hkx:∀d∈dstsOf x,Φ.keep d=none:=fun d hd=>hk d (aK7.2 (.inl hd))
  have hky:∀d∈dstsOf y,Φ.keep d=none:=fun d hd=>hk d (aK7.2 (.inr hd));have hrx:ro=none\/iC x=true:=hro.imp id fun hh=>J3
  have hry:ro=none\/iC y=true:=hro.imp id fun hh=>Jl;refine wpIn_seq ?_;rcases h' with h1|⟨C,h1,h2⟩
  ·refine wpIn_mono (ihx Φ ro σ a w G _ hrx hn hkx inv h1) ?_
   rintro e a' w' ⟨ms,σ',G',hq,inv',mk⟩
   cases e with
   |normal=>exact wpIn_mono (ihy (Fr.at {Φ with ds:=ms++Φ.ds} w' G') ro σ' a' w' G' Q hry hn hky inv'.up hq) (fun e a w h=>Lift.back inv' mk h)
   |_=>exact⟨ms,σ',G',hq,inv',mk⟩
  ·refine wpIn_mono (ihx Φ ro σ a w G _ hrx hn hkx inv h1) ?_
   rintro e a' w' ⟨ms,σ',G',hq,inv',mk⟩
   cases e with
   |normal=>
    obtain⟨p,hle,hinv⟩:=hq;obtain⟨G2,inv2⟩:=hle.out inv'.up;have inv3:=inv'.down inv'.aF0 inv2 rfl rfl rfl rfl rfl rfl rfl rfl
    have mk2:Marks Φ.w0 w' G2 ms:=by
     obtain⟨Ds,e1,e2,e3⟩:=mk;refine⟨Ds,e1,e2,fun D hD=>?_⟩;obtain⟨q1,q2,q3⟩:=e3 D hD;exact⟨q1,q2,(inv2.mP (w0:=w') (G0:=G') rfl rfl rfl (Array.getElem?_eq_some_iff.1 q2).1 q3).2⟩
    exact wpIn_mono (ihy (Fr.at {Φ with ds:=ms++Φ.ds} w' G2) ro _ a' w' G2 Q hry hn hky inv3.up (h2 p hinv)) (fun e a w h=>Lift.back inv3 mk2 h)
   |_=>exact⟨ms,σ',G',hq,inv',mk⟩
 |cond c x y ihx ihy=>
  intro Φ ro σ a w G Q hro hn hk inv h
  have h':(match σ.ev c with
   | .lit (.bool b)=>branch b (nH T P n x σ Q) (nH T P n y σ Q)
   |_=>False):=h
  have hkx:∀d∈dstsOf x,Φ.keep d=none:=fun d hd=>hk d (aK7.2 (.inl hd));have hky:∀d∈dstsOf y,Φ.keep d=none:=fun d hd=>hk d (aK7.2 (.inr hd))
  have hrx:ro=none\/iC x=true:=hro.imp id fun hh=>J3;have hry:ro=none\/iC y=true:=hro.imp id fun hh=>Jl
  have he:=(inv.ev c).1;split at h'
  ·rename_i b hb
   rw[hb]at he
   cases b with
   |true=>exact wpIn_cond_true he.bH (ihx Φ ro σ a w G Q hrx hn hkx inv h')
   |false=>exact wpIn_cond_false he.bH (ihy Φ ro σ a w G Q hry hn hky inv h')
  ·exact h'.elim
 |block id c ih=>
  intro Φ ro σ a w G Q hro hn hk inv h;refine wpIn_block (wpIn_mono (ih Φ ro σ a w G _ hro hn hk inv h) ?_);rintro e a' w' ⟨ms,σ',G',hq,inv',mk⟩
  cases e with
  |exit i=>
   have hq':cond (Nat.beq i id) (Q .normal σ') (Q (.exit i) σ'):=hq;show Exit.inBlock id (Lift T Φ Q) (.exit i) a' w';by_cases hi:i=id
   ·subst hi
    have hb:Nat.beq i i=true:=Nat.beq_refl i;rw[hb]at hq';simp only[Exit.inBlock,if_true];exact⟨ms,σ',G',hq',inv',mk⟩
   ·have hb:Nat.beq i id=false:=by rw[<-Bool.not_eq_true,Nat.beq_eq];exact hi
    rw[hb]at hq';simp only[Exit.inBlock,if_neg hi];exact⟨ms,σ',G',hq',inv',mk⟩
  |_=>exact⟨ms,σ',G',hq,inv',mk⟩
 |loop c ih=>
  intro Φ ro σ a w G Q hro hn hk inv h;have h':bI0 T (nH T P n c) σ Q:=h;replace h':=h'.out;obtain⟨L,⟨p0,hle0,hi0⟩,hround⟩:=h';obtain⟨G0,inv0⟩:=hle0.out inv;refine wpIn_loop_ghost (fun n a w=>∃p ms G,L.m p=n/\L.inv p/\Inv T {Φ with ds:=ms++Φ.ds} (L.st p) a w G/\Marks Φ.w0 w G ms) (L.m p0) ⟨p0,[],G0,rfl,hi0,inv0,Marks.nil _ _ _⟩ ?_;rintro n' a' w' ⟨p,ms,G1,rfl,hi,inv1,mk⟩;refine wpIn_mono (ih (Fr.at {Φ with ds:=ms++Φ.ds} w' G1) ro _ a' w' G1 _ hro hn hk inv1.up (hround p hi)) ?_;rintro e a2 w2 hL;obtain⟨ms2,σ',G',hq,inv',mk'⟩:=Lift.back inv1 mk hL
  cases e with
  |normal=>
   obtain⟨p',hle,hi',hm'⟩:=hq;obtain⟨G2,inv2⟩:=hle.out inv'.up;have inv3:=inv'.down inv'.aF0 inv2 rfl rfl rfl rfl rfl rfl rfl rfl
   have mk2:Marks Φ.w0 w2 G2 ms2:=by
    obtain⟨Ds,e1,e2,e3⟩:=mk';refine⟨Ds,e1,e2,fun D hD=>?_⟩;obtain⟨q1,q2,q3⟩:=e3 D hD;exact⟨q1,q2,(inv2.mP (w0:=w2) (G0:=G') rfl rfl rfl (Array.getElem?_eq_some_iff.1 q2).1 q3).2⟩
   exact⟨L.m p',hm',p',ms2,G2,rfl,hi',inv3,mk2⟩
  |_=>exact⟨ms2,σ',G',hq,inv',mk'⟩
 |rangeFunc f ps x y ihx ihy=>
  intro Φ ro σ a w G Q hro hn hk inv h
  have hro':ro=none:=by
   rcases hro with h|h
   ·exact h
   ·cases(h:false=true)
  subst hro'
  have h':(match σ.ev f with
   | .fn g caps=>cond (allR V.still caps) (cond (iC x) (cond (iC y) (cond (allR (fun p=>Nat.blt p n) ps.toList) (aO0 T P f g caps ps.toList (appR ps.toList (appR (dstsOf x) (dstsOf y))) (nH T P n x) (nH T P n y) σ Q) False) False) False) False
   |_=>False):=h
  split at h'
  ·obtain⟨h1,h'⟩:=aT h'
   obtain⟨h2,h'⟩:=aT h';obtain⟨h3,h'⟩:=aT h';obtain⟨h4,h'⟩:=aT h';rw[bT,bT]at h';refine cI6 hn (fun Φ ro σ a w G Q=>ihx Φ ro σ a w G Q (.inr h2)) (fun Φ ro σ a w G Q=>ihy Φ ro σ a w G Q (.inr h3)) (fun p hp=>blt (dY.1 h4 p hp)) ?_ h1 inv h';intro d hd;refine hk d ?_;show d∈appR ps.toList (appR (dstsOf x) (dstsOf y));rw[bT,bT];exact hd
  ·exact h'.elim
 |exit id=>intro Φ ro σ a w G Q _ _ _ inv h;exact wpIn_exit (Lift.of h inv)
 |scope c ih=>
  intro Φ ro σ a w G Q hro hn hk inv h;refine bE2 (wpIn_mono (ih Φ ro σ a w G _ hro hn hk inv h) ?_);rintro e a' w' ⟨ms,σ',G',hq,inv',mk⟩
  cases e with
  |goto l=>exact hq.elim
  |_=>exact⟨ms,σ',G',hq,inv',mk⟩
 |label l=>intro Φ ro σ a w G Q _ _ _ inv h;exact wpIn_label (Lift.of h inv)
 |goto l=>intro Φ ro σ a w G Q _ _ _ inv h;exact(h:False).elim
 |ret=>intro Φ ro σ a w G Q _ _ _ inv h;exact wpIn_ret (Lift.of h inv)
 |refuse s=>intro Φ ro σ a w G Q _ _ _ inv h;exact(h:False).elim
theorem cL7{fn:Func}{R:Ending->World->Prop}{u:FrameMode}(hu:u≠ .run){tmps:Array Value}:∀(ms:List Deferred) (w:World),Inv T Φ σ a w G->Φ.ds=[]->a.tmps=tmps->Marks Φ.w0 w G ms->(∀w',Inv T Φ σ a w' G->LeavesInM (FW none) 0 P fn tmps R [] u w')->LeavesInM (FW none) 0 P fn tmps R ms u w:=by
 intro ms
 induction ms with
 |nil=>intro w inv _ _ _ h;exact h w inv
 |cons d ms ih=>
  intro w inv h0 ht mk h;obtain⟨Ds,e1,e2,e3⟩:=mk
  cases Ds with
  |nil=>cases e1
  |cons D Ds=>
   rw[List.map_cons]at e1;injection e1 with e0 e1;subst e0;obtain⟨q1,q2,q3⟩:=e3 D Ae;refine⟨hu, .inl ⟨D,_,rfl,run_takeDeferred q2,?_⟩⟩;refine ih _ (inv.quiet (aF9 q3 q1)) h0 ht ⟨Ds,e1,(List.nodup_cons.1 e2).2,fun D' hD'=>?_⟩ h
   obtain⟨r1,r2,r3⟩:=e3 D' (List.mem_cons_of_mem _ hD');exact⟨r1,(World.putObj_heap_other (fun e=>(List.nodup_cons.1 e2).1 (by rw[<-e];exact hD'))).trans r2,r3⟩
theorem wM(hT:bP T P)(hm:P.follows .mixedOrders=true){f:FuncId}{fn:Func}{c:Code}{args:Array Value}{Q:Exit->St->Prop}{R:Ending->World->Prop}(hf:P.funcs[f]? =some fn)(hb:fn.body=some c)(hd:Φ.ds=[])(hk:Φ.keep=fun _=>none)(hn:Φ.n=fn.ntmps)
 (inv:Inv T Φ σ {tmps:=args++Array.replicate (fn.ntmps-args.size) undef,defers:=[]} w G)(h:nH T P fn.ntmps c σ Q)
 (fin:∀(e:Exit) (σ':St) (a':Act) (w':World) (G':Gh),Q e σ'->Inv T Φ σ' a' w' G'->(e= .normal\/e= .ret)/\∃v,(results fn a'.tmps).run P w'= .ok v w'/\R (.returned v) w'):Calls P f args w R:=by
 refine bD0.1 (callsIn_of_wp_marks (F:=FW none) hf hb trivial (wpIn_mono (cZ2 hT hm c Φ none σ _ w G Q (.inl rfl) hn (fun d _=>by rw[hk]) inv h) ?_) rfl)
 rintro e a' w' ⟨ms,σ',G',hq,inv',mk⟩;have inv2:Inv T Φ σ' {a' with defers:=[]} w' G':=inv'.aQ1 [] rfl rfl rfl rfl rfl rfl hd (fun s v hs=>by rw[hk]at hs;cases hs)
 have hds:a'.defers=ms:=by
  have:=inv'.nd;rw[hd]at this;simpa using this
 obtain⟨he,_⟩:=fin e σ' _ w' G' hq inv2
 have done:LeavesInM (FW none) 0 P fn a'.tmps R a'.defers .returning w':=by
  rw[hds];refine cL7 Ae ms w' inv2 hd rfl mk fun w2 inv3=>?_;exact(fin e σ' _ w2 G' hq inv3).2
 rcases he with rfl|rfl
 ·exact done
 ·exact done
theorem gG2{w:World}{G:Gh}{v:Value}{rs:List V}(h:∀q,rs≠ .bot::q):Rr T w G v (.tup rs)=∃vs:Array Value,v= .tuple vs/\vs.size=rs.length/\∀(j:Nat) u y,vs[j]? =some u->rs[j]? =some y->Rb T w G j u y:=by
 unfold Rr;split
 ·rename_i q;cases q;exact absurd rfl (h _)
 ·rename_i q;cases q;rfl
 ·rename_i _ q;exact absurd rfl (q _)
theorem gB6{ar:Nat->Option AE}{ys xs:List V}(h:iQ T ar ys xs):∀q,ys≠ .bot::q:=by
 rintro q rfl
 cases xs with
 |nil=>exact h.elim
 |cons x xr=>exact(h.1:False)
theorem cF9(inv:Inv T Φ σ a w G){xs ys:List V}(hgive:iQ T σ.ar ys xs)(hko:iR xs ys=true)(vs:List Value)(hvs:∀(i:Nat) v x,vs[i]? =some v->xs[i]? =some x->Rv w G v x/\x.ok σ.hasB σ.hasA):
 ∃Gc:Gh,(∀(j:Nat) v y,vs[j]? =some v->ys[j]? =some y->Rb T w Gc j v y)/\(∀b,G.O b= .fz->Gc.O b= .fz)/\(∀b i,Gc.O b≠ .bx i)/\(∀b,Gc.O b≠ .ext->(G.O b= .fz/\Gc.O b= .fz)\/∃k,G.O b= .ar k):=by
 obtain⟨hlen,hg⟩:=qM hgive;simp only[iR,Bool.and_eq_true]at hko;have hnd:=uU.1 hko.1
 have hdisj:∀k∈bD ys xs,k∉bK ys xs:=fun k hk hm=>by
  have:=dY.1 hko.2 k hk;rw[pM.2 hm]at this;simp at this
 generalize hok:bD ys xs=ok at*;generalize hvk:bK ys xs=vk at*
 let pos:Nat->Nat:=fun k=> @dite _ (∃j,zW xs ys j k) (Classical.propDecidable _) (fun h=>h.choose) (fun _=>0)
 have hpos:∀ {j k},zW xs ys j k->pos k=j:=by
  intro j k hp;exact Nz
 let Gc:Gh:={G with O:=fun b=>match G.O b with| .fz=> .fz| .ar k=>if k∈vk then .fz else if k∈ok then .ar (pos k)else .ext|_=> .ext}
 have c_fz:∀b,G.O b= .fz->Gc.O b= .fz:=fun b hb=>BA;have c_bx:∀b i,G.O b= .bx i->Gc.O b= .ext:=fun b i hb=>BA
 have c_ext:∀b,G.O b= .ext->Gc.O b= .ext:=fun b hb=>BA;have c_vk:∀b k,G.O b= .ar k->k∈vk->Gc.O b= .fz:=fun b k hb hk=>Df
 have c_ok:∀b k,G.O b= .ar k->k∈ok->Gc.O b= .ar (pos k):=fun b k hb hk=>IZ;have hkc:Keep w w G Gc:=⟨c_fz,fun _ _=>rfl⟩
 refine⟨Gc,?_,c_fz,?_,?_⟩
 ·intro j v y hv hy
  have hj:j<xs.length:=DZ;have hx:xs[j]? =some xs[j] :=List.getElem?_eq_getElem hj
  obtain⟨e1,e2⟩:=hvs j v _ hv hx;refine aJ2 inv hkc (hg j _ y hx hy) e1 e2 (fun hl k hk b hb=>?_) (fun hl k hk b hb=>?_)
  ·exact c_vk b k hb EW
  ·have hkok:k∈ok:=by rw[<-hok];exact oZ.2 ⟨j,_,y,hx,hy,hl,hk⟩
   rw[c_ok b k hb hkok,hpos ⟨_,y,hx,hy,hl,hk⟩]
 ·intro b i hb
  cases hO:G.O b with
  |ext=>rw[c_ext b hO]at hb;cases hb
  |fz=>rw[c_fz b hO]at hb;cases hb
  |bx j=>rw[c_bx b j hO]at hb;cases hb
  |ar k=>
   by_cases h1:k∈vk
   ·rw[c_vk b k hO h1]at hb;cases hb
   ·by_cases h2:k∈ok
    ·rw[c_ok b k hO h2]at hb;cases hb
    ·have:Gc.O b= .ext:=by simp only[Gc];rw[hO];simp[h1,h2]
     rw[this]at hb;cases hb
 ·intro b hb
  cases hO:G.O b with
  |ext=>exact absurd (c_ext b hO) hb
  |fz=>exact .inl ⟨rfl,c_fz b hO⟩
  |bx j=>exact absurd (c_bx b j hO) hb
  |ar k=>exact .inr ⟨k,rfl⟩
def aE3(a:Act):ResultVar->Sem Value
 | .tmp t=>pure (a.tmps.getD t undef)
 | .cell b t=>do loadVar t (<-asAddr (a.tmps.getD b undef))
theorem aQ5(hT:bP T P)(inv:Inv T Φ σ a w G):∀(rs:List ResultVar) (K:List V->Prop),aH3 T σ rs K->
 ∃(xs:List V) (vs:List Value),K xs/\vs.length=xs.length/\vs.length=rs.length/\(∀(i:Nat) v x,vs[i]? =some v->xs[i]? =some x->Rv w G v x/\x.ok σ.hasB σ.hasA)/\
  (rs.mapM (aE3 a)).run P w= .ok vs w:=by
 intro rs
 induction rs with
 |nil=>intro K h;exact⟨[],[],h,rfl,rfl,fun i v x hv=>by simp at hv,Ae⟩
 |cons x r ih=>
  intro K h
  have fin:∀(v:V) (u:Value),Rv w G u v->v.ok σ.hasB σ.hasA->(aE3 a x).run P w= .ok u w->(aH3 T σ r fun vs=>K (v::vs))->
   ∃(xs:List V) (vs:List Value),K xs/\vs.length=xs.length/\vs.length=(x::r).length/\(∀(i:Nat) v x,vs[i]? =some v->xs[i]? =some x->Rv w G v x/\x.ok σ.hasB σ.hasA)/\
    ((x::r).mapM (aE3 a)).run P w= .ok vs w:=by
   intro v u hv ho hrun hrest;obtain⟨xs,vs,h1,h2,h3,h4,h5⟩:=ih _ hrest;refine⟨v::xs,u::vs,h1,by simp[h2],by simp[h3],?_,?_⟩
   ·intro i u' v' hu hv'
    cases i with
    |zero=>simp at hu hv';subst hu;subst hv';exact⟨hv,ho⟩
    |succ i=>exact h4 i u' v' AX (by simpa using hv')
   ·simp only[List.mapM_cons,Sem.run_bind,hrun,Result.andThen_ok,h5,Sem.run_pure]
  cases x with
  |tmp t=>
   have h':force (σ.env t) (fun v=>aH3 T σ r fun vs=>K (v::vs)):=h;rw[force_eq]at h';exact fin _ _ (inv.env t) (inv.wfE t) (by simp[aE3]) h'
  |cell b t=>
   have h':cond (Nat.blt t (T.n t)) (pW (T.row t) σ (σ.env b) fun v _=>aH3 T σ r fun vs=>K (v::vs)) False:=h;obtain⟨ht,h2⟩:=aT h';obtain⟨ad,v',v,he,hrun,hk,hv,hvo⟩:=cG1 hT inv t (.tmp b) (blt ht) h2;have he':a.tmps.getD b undef= .pointer (some ad):=he
   exact fin v v' hv hvo (by simp only[aE3,he',asAddr,Sem.run_bind,Sem.run_pure,Result.andThen_ok,hrun]) hk
def aI1(vs:List Value):Value:=match vs with| [v] =>v|vs=> .tuple vs.toArray
theorem aD1{fn:Func}{vs:List Value}(h:(fn.results.toList.mapM (aE3 a)).run P w= .ok vs w):
 (results fn a.tmps).run P w= .ok (aI1 vs) w:=by
 have h2:(fn.results.mapM (aE3 a)).run P w= .ok vs.toArray w:=by
  rw[Array.mapM_eq_mapM_toList];simp only[Sem.run_map,h,Result.andThen_ok]
 have h3:(results fn a.tmps)=(do let vs<-fn.results.mapM (aE3 a);pure (if h:vs.size=1 then vs[0]else .tuple vs)):=by
  unfold results;congr 1
 rw[h3];simp only[Sem.run_bind,h2,Result.andThen_ok,Sem.run_pure];congr 1
 match vs with
 | [] =>rfl
 | [v] =>rfl
 |v::u::r=>simp;rfl
theorem lY:∀(ys:List V) (j s:Nat),pF ys j s=if j<=s then(match ys[s-j]? with|some y=>cond (linear y) (.arr s 0) y|none=> .tup [])else .tup [] :=by
 intro ys
 induction ys with
 |nil=>intro j s;show V.tup [] =_;split<;>simp
 |cons y r ih=>
  intro j s;show cond (Nat.beq s j) (cond (linear y) (.arr j 0) y) (pF r (j+1) s)=_;by_cases e:s=j
  ·subst e
   rw[show Nat.beq s s=true from Nat.beq_refl s];simp
  ·exact Iu
theorem gY:∀(ys:List V) (j s:Nat),jK ys j s=if j<=s then(match ys[s-j]? with|some (.own e l)=>some ⟨0, .own,e,l⟩|some (.ap e l)=>some ⟨0, .ap,e,l⟩|_=>none)else none:=by
 intro ys
 induction ys with
 |nil=>intro j s;show none=_;split<;>simp
 |cons y r ih=>
  intro j s;show cond (Nat.beq s j) (match y with| .own e l=>some (⟨0, .own,e,l⟩:AE)| .ap e l=>some ⟨0, .ap,e,l⟩|_=>none) (jK r (j+1) s)=_
  by_cases e:s=j
  ·subst e
   rw[show Nat.beq s s=true from Nat.beq_refl s];simp only[cond_true,Nat.le_refl,if_true,Nat.sub_self,List.getElem?_cons_zero];cases y<;>rfl
  ·exact Iu
theorem eH1(hT:bP T P)(hm:P.follows .mixedOrders=true){f:FuncId}{fn:Func}(hf:P.funcs[f]? =some fn)(hc:callable P f=true){ys:List V}{r:V}(hn:ys.length<=fn.ntmps)(h:fnVC T P fn ys r):Spec T P f ys r:=by
 refine⟨hc,?_⟩;intro w G cs hcs htag hbx hargs hlay;unfold fnVC at h;split at h
 ·rename_i c hb
  let Φ:Fr:=⟨w,fun b=>∃j,G.O b= .ar j,fun b=>G.O b= .fz,fn.ntmps,fun _=>none,fun _=>none,[],fun _=>none⟩
  let G0:Gh:={G with av:=fun k _=>cs.getD k undef}
  have hkeep:Keep w w G G0:=⟨fun _ h=>h,fun _ _=>rfl⟩
  have hrb:∀(j:Nat) y,ys[j]? =some y->Rb T w G j (cs.getD j undef) y:=by
   intro j y hy;have hj:j<cs.size:=BV;exact hargs j _ y Gz hy
  have own1:∀ {j u e l},gJ T w G j u e l->u.oneCell'=true:=by
   intro j u e l h;exact Nb
  have cap1:∀ {u l},Rv w G u (.cap l)->u.oneCell'=true:=by
   intro u l h;exact Nv
  have inv:Inv T Φ (uD ys) {tmps:=cs++Array.replicate (fn.ntmps-cs.size) undef,defers:=[]} w G0:=by
   constructor
   ·rfl
   ·intro s v h;cases h
   ·exact Jg
   ·intro s
    exact MB
   ·intro s
    exact MO
   ·intro i cs' hi
    exact LV
   ·intro i cs' hi
    exact LV
   ·intro k en hen
    exact ML
   ·intro k en hen
    exact MN
   ·exact htag
   ·intro b i hb;exact absurd hb (hbx b i)
   ·intro b k hb;exact .inr ⟨k,hb⟩
   ·intro b hb;exact .inl hb
   ·intro b hb;exact hb
   ·intro b _ _;rfl
   ·exact Nat.le_refl _
   ·rfl
   ·rfl
   ·rfl
   ·intro j v h;cases h
   ·exact⟨hlay,fun b hb=>⟨htag b Ea,fun⟨j,hj⟩=>EM⟩⟩
   ·intro i b h;cases h
  refine wM hT hm hf hb (Φ:=Φ) rfl rfl rfl inv h ?_
  have fin:∀(e:Exit) (σ:St) (a':Act) (w':World) (G':Gh),dF3 T σ fn.results.toList r->Inv T Φ σ a' w' G'->∃v,(results fn a'.tmps).run P w'= .ok v w'/\∃v0 Gr,(Ending.returned v= .returned v0)/\Rr T w' Gr v0 r/\
   (∀b,G.O b= .fz->Gr.O b= .fz)/\(∀b,Gr.O b≠ .ext->b<w'.heap.size)/\(∀b i,Gr.O b≠ .bx i)/\
   (∀b,Gr.O b≠ .ext->(G.O b= .fz/\Gr.O b= .fz)\/w.heap.size<=b\/∃j,G.O b= .ar j)/\
   (∀b,b<w.heap.size->(∀j,G.O b≠ .ar j)->w'.heap[b]? =w.heap[b]?)/\
   w.heap.size<=w'.heap.size/\w'.os=w.os/\w'.tape=w.tape/\w'.output=w.output:=by
   intro e σ a' w' G' hret inv';rcases hret.out with hret|hret
   rotate_left
   ·obtain⟨xs,vs,hk,hl1,hl2,hvs,hrun⟩:=aQ5 hT inv' _ _ hret
    have hres:=aD1 hrun;refine⟨aI1 vs,hres,aI1 vs,?_⟩
    have frame:(∀b,b<w.heap.size->(∀j,G.O b≠ .ar j)->w'.heap[b]? =w.heap[b]?)/\w.heap.size<=w'.heap.size/\w'.os=w.os/\w'.tape=w.tape/\w'.output=w.output:=
     ⟨fun b hb hj=>inv'.frame b hb (fun⟨j,h⟩=>hj j h),inv'.size,inv'.os,inv'.tape,inv'.output⟩
    split at hk
    ·obtain⟨ys',cs,rfl,rfl,g1,g2⟩:=hk
     obtain⟨v,rfl⟩:∃v,vs=[v] :=List.length_eq_one_iff.1 hl1;obtain⟨hv1,hv2⟩:=hvs 0 v (.agg cs) rfl rfl
     obtain⟨cv,rfl,hl,ho,hc⟩:∃cv:Array Value,v= .agg cv/\cv.size=cs.length/\(∀c∈cv,c.oneCell'=true)/\∀(i:Nat) c x,cv[i]? =some c->cs[i]? =some x->Rv w' G' c x:=by
      cases hv1 with
      |agg cv _ h1 h2 h3=>exact⟨cv,rfl,h1,h2,h3⟩
     have hok:=aH.1 (by simpa only[V.ok]using hv2:V.okL σ.hasB σ.hasA cs)
     obtain⟨Gr,q1,q2,q3,q4⟩:=cF9 inv' g1 g2 cv.toList (fun i u x hu hx=>⟨hc i u x AX hx,hok x (List.mem_of_getElem? hx)⟩);have hlen:=(qM g1).1
     refine⟨Gr,rfl,⟨cv,rfl,Aa,ho,fun j u y hu hy=>q1 j u y AX hy⟩,fun b hb=>q2 b (inv'.F0 b hb),fun b hb=>inv'.tag b ?_,q3,fun b hb=>?_,frame⟩
     ·exact JF
     ·exact Ih
    ·exact hk.elim
   obtain⟨xs,vs,hk,hl1,hl2,hvs,hrun⟩:=aQ5 hT inv' _ _ hret;have hres:=aD1 hrun;refine⟨aI1 vs,hres,aI1 vs,?_⟩
   have common:∀(ys':List V),iQ T σ.ar ys' xs->iR xs ys'=true->∃Gr:Gh,(∀(j:Nat) v y,vs[j]? =some v->ys'[j]? =some y->Rb T w' Gr j v y)/\
    (∀b,G.O b= .fz->Gr.O b= .fz)/\(∀b,Gr.O b≠ .ext->b<w'.heap.size)/\(∀b i,Gr.O b≠ .bx i)/\
    (∀b,Gr.O b≠ .ext->(G.O b= .fz/\Gr.O b= .fz)\/w.heap.size<=b\/∃j,G.O b= .ar j):=by
    intro ys' h1 h2;obtain⟨Gc,q1,q2,q3,q4⟩:=cF9 inv' h1 h2 vs hvs;refine⟨Gc,q1,fun b hb=>q2 b (inv'.F0 b hb),fun b hb=>inv'.tag b ?_,q3,fun b hb=>?_⟩
    ·exact JF
    ·exact Ih
   have frame:(∀b,b<w.heap.size->(∀j,G.O b≠ .ar j)->w'.heap[b]? =w.heap[b]?)/\w.heap.size<=w'.heap.size/\w'.os=w.os/\w'.tape=w.tape/\w'.output=w.output:=
    ⟨fun b hb hj=>inv'.frame b hb (fun⟨j,h⟩=>hj j h),inv'.size,inv'.os,inv'.tape,inv'.output⟩
   split at hk
   ·rename_i x
    obtain⟨g1,g2,g3⟩:=hk;obtain⟨Gr,q1,q2,q3,q4,q5⟩:=common [r] g1 g2
    match vs,hl1 with
    | [v],_=>
      refine⟨Gr,rfl,?_,q2,q3,q4,q5,frame⟩;exact N8
   ·rename_i hne
    obtain⟨ys',rfl,g1,g2⟩:=hk;obtain⟨Gr,q1,q2,q3,q4,q5⟩:=common ys' g1 g2;have hlen:=(qM g1).1;refine⟨Gr,rfl,?_,q2,q3,q4,q5,frame⟩;have hnb:∀q,ys'≠ .bot::q:=gB6 g1
    rw[gG2 hnb];refine⟨vs.toArray,?_,by simp[hl1,hlen],fun j u y hu hy=>q1 j u y AX hy⟩
    match vs,xs,hl1 with
    | [],_,_=>rfl
    | [v],[x],_=>exact absurd rfl (hne x)
    |v::u::rr,_,_=>rfl
  intro e σ a' w' G' hq inv';exact Lr
 ·exact h.elim
theorem cE4(hT:bP T P)(hm:P.follows .mixedOrders=true){f:FuncId}{fn:Func}(hf:P.funcs[f]? =some fn)(hc:callable P f=true){ys:List V}{r:V}(hn:ys.length<=fn.ntmps){jo:Nat}{eo:TypeId}{lo li:List V}(hjo:jo<8)(hyo:ys[jo]? =some (.own eo li))(h:fnIO T P fn ys r jo eo lo):bE5 T P f ys r jo eo lo:=by
 refine⟨hc,?_⟩;intro w G cs hcs htag hbx hargs hlay;unfold fnIO at h;split at h
 ·rename_i c hb
  let Φ:Fr:=⟨w,fun b=>∃j,G.O b= .ar j,fun b=>G.O b= .fz,fn.ntmps,fun j=>if j=jo then some (cs.getD jo undef)else none,fun _=>none,[],fun _=>none⟩
  let G0:Gh:={G with av:=fun k _=>cs.getD k undef}
  have hkeep:Keep w w G G0:=⟨fun _ h=>h,fun _ _=>rfl⟩
  have hrb:∀(j:Nat) y,ys[j]? =some y->Rb T w G j (cs.getD j undef) y:=by
   intro j y hy;have hj:j<cs.size:=BV;exact hargs j _ y Gz hy
  have own1:∀ {j u e l},gJ T w G j u e l->u.oneCell'=true:=by
   intro j u e l h;exact Nb
  have cap1:∀ {u l},Rv w G u (.cap l)->u.oneCell'=true:=by
   intro u l h;exact Nv
  have inv:Inv T Φ (uD ys) {tmps:=cs++Array.replicate (fn.ntmps-cs.size) undef,defers:=[]} w G0:=by
   constructor
   ·rfl
   ·intro s v h;cases h
   ·exact Jg
   ·intro s
    exact MB
   ·intro s
    exact MO
   ·intro i cs' hi
    exact LV
   ·intro i cs' hi
    exact LV
   ·intro k en hen
    exact ML
   ·intro k en hen
    exact MN
   ·exact htag
   ·intro b i hb;exact absurd hb (hbx b i)
   ·intro b k hb;exact .inr ⟨k,hb⟩
   ·intro b hb;exact .inl hb
   ·intro b hb;exact hb
   ·intro b _ _;rfl
   ·exact Nat.le_refl _
   ·rfl
   ·rfl
   ·rfl
   ·intro j v h
    have h':(if j=jo then some (cs.getD jo undef)else none)=some v:=h
    split at h'
    ·rename_i e
     subst e;cases h';refine⟨rfl,hjo,?_⟩;show∃en,jK ys 0 j=some en;rw[gY];simp only[Nat.zero_le,if_true,Nat.sub_zero,hyo];exact⟨_,rfl⟩
    ·cases h'
   ·exact⟨hlay,fun b hb=>⟨htag b Ea,fun⟨j,hj⟩=>EM⟩⟩
   ·intro i b h;cases h
  refine wM hT hm hf hb (Φ:=Φ) rfl rfl rfl inv h ?_
  have fin:∀(e:Exit) (σ:St) (a':Act) (w':World) (G':Gh),dC6 T σ fn.results.toList r jo eo lo->Inv T Φ σ a' w' G'->∃v,(results fn a'.tmps).run P w'= .ok v w'/\∃v0 Gr,(Ending.returned v= .returned v0)/\(Rr T w' Gr v0 r/\IoX T jo eo lo cs w' Gr)/\
   (∀b,G.O b= .fz->Gr.O b= .fz)/\(∀b,Gr.O b≠ .ext->b<w'.heap.size)/\(∀b i,Gr.O b≠ .bx i)/\
   (∀b,Gr.O b≠ .ext->(G.O b= .fz/\Gr.O b= .fz)\/w.heap.size<=b\/∃j,G.O b= .ar j)/\
   (∀b,b<w.heap.size->(∀j,G.O b≠ .ar j)->w'.heap[b]? =w.heap[b]?)/\
   w.heap.size<=w'.heap.size/\w'.os=w.os/\w'.tape=w.tape/\w'.output=w.output:=by
   intro e σ a' w' G' hret inv';replace hret:=hret.out;obtain⟨xs,vs,hk,hl1,hl2,hvs,hrun⟩:=aQ5 hT inv' _ _ hret;have hres:=aD1 hrun;refine⟨aI1 vs,hres,aI1 vs,?_⟩;obtain⟨hav0,_,en0,hen0⟩:=inv'.args jo (cs.getD jo undef) (by show(if jo=jo then some (cs.getD jo undef)else none)=_;rw[if_pos rfl])
   have hone:(cs.getD jo undef).oneCell'=true:=by
    have hr:=hrb jo _ hyo;exact own1 hr.2.2
   have hlast:Rv w' G' (cs.getD jo undef) (.arr jo 0)/\(V.arr jo 0).ok σ.hasB σ.hasA:=by
    refine⟨?_,by simp only[V.ok];exact⟨en0,hen0,Nat.zero_le _⟩⟩
    have:=Rv.arr (w:=w') (G:=G') jo 0 (by rw[hav0];exact hone)
    rw[hav0]at this;exact this
   have hvs2:∀(i:Nat) v x,(vs++[cs.getD jo undef])[i]? =some v->(xs++[V.arr jo 0])[i]? =some x->Rv w' G' v x/\x.ok σ.hasB σ.hasA:=by
    intro i v x hv hx;rcases Nat.lt_or_ge i vs.length with hi|hi
    ·rw[List.getElem?_append_left hi]at hv
     rw[List.getElem?_append_left Aa]at hx;exact hvs i v x hv hx
    ·have hi2:i=vs.length:=by
      have:=(List.getElem?_eq_some_iff.1 hv).1;simp at this;omega
     subst hi2;rw[List.getElem?_append_right (Nat.le_refl _)]at hv;rw[List.getElem?_append_right Aa]at hx;rw[Nat.sub_self]at hv;rw[hl1,Nat.sub_self]at hx;simp only[List.getElem?_cons_zero,Option.some.injEq]at hv hx;subst hv;subst hx;exact hlast
   have common:∀(ys':List V),iQ T σ.ar (ys'++[.own eo lo]) (xs++[.arr jo 0])->iR (xs++[.arr jo 0]) (ys'++[.own eo lo])=true->∃Gr:Gh,(∀(j:Nat) v y,vs[j]? =some v->ys'[j]? =some y->Rb T w' Gr j v y)/\IoX T jo eo lo cs w' Gr/\
    (∀b,G.O b= .fz->Gr.O b= .fz)/\(∀b,Gr.O b≠ .ext->b<w'.heap.size)/\(∀b i,Gr.O b≠ .bx i)/\
    (∀b,Gr.O b≠ .ext->(G.O b= .fz/\Gr.O b= .fz)\/w.heap.size<=b\/∃j,G.O b= .ar j):=by
    intro ys' h1 h2;obtain⟨Gc,q1,q2,q3,q4⟩:=cF9 inv' h1 h2 (vs++[cs.getD jo undef]) hvs2;have hlen:=(qM h1).1;simp only[List.length_append,List.length_cons,List.length_nil]at hlen;refine⟨Gc,fun j v y hv hy=>?_,?_,fun b hb=>q2 b (inv'.F0 b hb),fun b hb=>inv'.tag b ?_,q3,fun b hb=>?_⟩
    ·refine q1 j v y ?_ ?_
     ·rw[List.getElem?_append_left (List.getElem?_eq_some_iff.1 hv).1];exact hv
     ·rw[List.getElem?_append_left (List.getElem?_eq_some_iff.1 hy).1];exact hy
    ·have hq:=q1 vs.length (cs.getD jo undef) (.own eo lo) Ae (by rw[List.getElem?_append_right (by omega)];rw[show vs.length-ys'.length=0 by omega];rfl)
     exact⟨hq.2.1,_,hq.2.2⟩
    ·exact JF
    ·exact Ih
   have frame:(∀b,b<w.heap.size->(∀j,G.O b≠ .ar j)->w'.heap[b]? =w.heap[b]?)/\w.heap.size<=w'.heap.size/\w'.os=w.os/\w'.tape=w.tape/\w'.output=w.output:=
    ⟨fun b hb hj=>inv'.frame b hb (fun⟨j,h⟩=>hj j h),inv'.size,inv'.os,inv'.tape,inv'.output⟩
   split at hk
   ·rename_i x
    obtain⟨g1,g2,_,g3⟩:=hk;obtain⟨Gr,q1,q0,q2,q3,q4,q5⟩:=common [r] g1 g2;obtain⟨v,rfl⟩:∃v,vs=[v] :=List.length_eq_one_iff.1 hl1;refine⟨Gr,rfl,⟨?_,q0⟩,q2,q3,q4,q5,frame⟩;exact N8
   ·rename_i hne
    obtain⟨ys',rfl,g1,g2⟩:=hk;rw[bT,bT]at g1 g2;obtain⟨Gr,q1,q0,q2,q3,q4,q5⟩:=common ys' g1 g2;have hlen:=(qM g1).1;simp only[List.length_append,List.length_cons,List.length_nil]at hlen;refine⟨Gr,rfl,⟨?_,q0⟩,q2,q3,q4,q5,frame⟩;have hnb:∀q,ys'≠ .bot::q:=fun q e=>by subst e;exact gB6 g1 (q++[.own eo lo]) rfl
    rw[gG2 hnb];refine⟨vs.toArray,?_,by simp[hl1];omega,fun j u y hu hy=>q1 j u y AX hy⟩
    exact MW
  intro e σ a' w' G' hq inv';exact Lr
 ·exact h.elim
end
def kW(b:List V):Nat->List V:=
 List.rec (motive:=fun _=>Nat->List V) (fun _=> []) (fun y _ ih t=>cond (linear y) (.arr t 0) y::ih (t+1)) b
def bB3(bs:List (List V)):Nat->Nat->Option (List V):=
 List.rec (motive:=fun _=>Nat->Nat->Option (List V)) (fun _ _=>none) (fun b _ ih j s=>cond (Nat.beq s (100000+j)) (some (kW b (100000*(j+1)))) (ih (j+1) s)) bs
def vT(bs:List (List V)):Nat->Nat->Option AE:=
 List.rec (motive:=fun _=>Nat->Nat->Option AE) (fun _ _=>none) (fun b _ ih j s=>match jK b (100000*(j+1)) s with|some en=>some en|none=>ih (j+1) s) bs
def aG1(ys:List V)(bs:List (List V)):St:=⟨pF ys 0,bB3 bs 0,fun s=>match jK ys 0 s with|some en=>some en|none=>vT bs 0 s⟩
def iP(bs:List (List V)):Nat->List Nat:=List.rec (motive:=fun _=>Nat->List Nat) (fun _=> []) (fun _ _ ih j=>(100000+j)::ih (j+1)) bs
def aT2(bx:Nat->Option (List V))(gs:Grp)(is:List Nat):Bool:=aE7 (ownG gs)&&allR (fun k=> !memR k (mF gs)) (ownG gs)&&allR (fun i=>isS (bx i)) is
structure retB(T:Tab)(σ:St)(rs:List ResultVar)(r:V)(bs:List (List V)):Prop where
 out:aH3 T σ rs fun xs=>match xs with
  | [x] =>xM T σ.ar (iP bs 0) (([x],[r])::eU σ.bx bs (iP bs 0))/\aT2 σ.bx (([x],[r])::eU σ.bx bs (iP bs 0)) (iP bs 0)=true/\(∀rs,r≠ .tup rs)
  |xs=>∃ys,r= .tup ys/\xM T σ.ar (iP bs 0) ((xs,ys)::eU σ.bx bs (iP bs 0))/\aT2 σ.bx ((xs,ys)::eU σ.bx bs (iP bs 0)) (iP bs 0)=true
def jR(T:Tab)(P:Program)(fn:Func)(ys:List V)(bs:List (List V))(r:V)(bs':List (List V)):Prop:=
 match fn.body with
 |some c=>nH T P fn.ntmps c (aG1 ys bs) fun e σ=>match e with
  | .normal=>retB T σ fn.results.toList r bs'
  | .ret=>retB T σ fn.results.toList r bs'
  |_=>False
 |none=>False
section
variable{T:Tab}{P:Program}{Φ:Fr}{σ:St}{a:Act}{w w':World}{G G':Gh}{K:VK}{o:Oper}{d:Nat}
theorem aH4:∀(b:List V) (t q:Nat),(kW b t)[q]? =(b[q]?).map fun y=>cond (linear y) (.arr (t+q) 0) y:=by
 intro b
 induction b with
 |nil=>intro t q;simp[kW]
 |cons y r ih=>
  intro t q;have e:kW (y::r) t=cond (linear y) (.arr t 0) y::kW r (t+1):=rfl;rw[e]
  cases q with
  |zero=>simp
  |succ q=>simp only[List.getElem?_cons_succ,ih,show t+1+q=t+(q+1) from Aa]
theorem aR6:∀(b:List V) (t:Nat),(kW b t).length=b.length:=by
 intro b
 induction b with
 |nil=>intro t;rfl
 |cons y r ih=>intro t;exact congrArg Nat.succ (ih (t+1))
theorem bI8:∀(bs:List (List V)) (j s:Nat),bB3 bs j s=if 100000+j<=s then(bs[s- (100000+j)]?).map fun b=>kW b (100000*(s-100000+1))else none:=by
 intro bs
 induction bs with
 |nil=>intro j s;show none=_;split<;>simp
 |cons b r ih=>
  intro j s;show cond (Nat.beq s (100000+j)) (some (kW b (100000*(j+1)))) (bB3 r (j+1) s)=_;by_cases e:s=100000+j
  ·subst e
   rw[show Nat.beq (100000+j) (100000+j)=true from Nat.beq_refl _];simp
  ·have hb:Nat.beq s (100000+j)=false:=by rw[<-Bool.not_eq_true,Nat.beq_eq];exact e
   rw[hb,cond_false,ih];by_cases h1:100000+(j+1)<=s
   ·rw[if_pos h1,if_pos Aa]
    rw[show s- (100000+j)=(s- (100000+(j+1)))+1 from Aa,List.getElem?_cons_succ]
   ·rw[if_neg h1,if_neg Aa]
theorem cC7{bs:List (List V)}(hb:∀b∈bs,b.length<100000):∀ {j s:Nat} {en:AE},vT bs j s=some en->∃(i q:Nat) (b:List V),bs[i]? =some b/\s=100000*(j+i+1)+q/\q<b.length/\(b[q]? =some (.own en.ty en.l)/\en=⟨0, .own,en.ty,en.l⟩\/b[q]? =some (.ap en.ty en.l)/\en=⟨0, .ap,en.ty,en.l⟩):=by
 induction bs with
 |nil=>intro j s en h;cases h
 |cons b r ih=>
  intro j s en h;have h':(match jK b (100000*(j+1)) s with|some en=>some en|none=>vT r (j+1) s)=some en:=h
  split at h'
  ·rename_i en' hen
   cases h';rw[gY]at hen;split at hen
   ·rename_i hle
    split at hen
    ·rename_i e l hy
     cases hen;exact⟨0,s-100000*(j+1),b,rfl,Aa,(List.getElem?_eq_some_iff.1 hy).1, .inl ⟨hy,rfl⟩⟩
    ·rename_i e l hy
     cases hen;exact⟨0,s-100000*(j+1),b,rfl,Aa,(List.getElem?_eq_some_iff.1 hy).1, .inr ⟨hy,rfl⟩⟩
    ·cases hen
   ·cases hen
  ·obtain⟨i,q,b',h1,h2,h3,h4⟩:=ih (fun b hb'=>hb b (by simp[hb'])) h'
   exact⟨i+1,q,b',h1,by rw[h2];omega,h3,h4⟩
theorem cU9{bs:List (List V)}:∀ {j i q:Nat} {b:List V} {y:V},bs[i]? =some b->b[q]? =some y->linear y=true->∃en,vT bs j (100000*(j+i+1)+q)=some en:=by
 induction bs with
 |nil=>intro j i q b y h;simp at h
 |cons b0 r ih=>
  intro j i q b y hb hy hl;show∃en,(match jK b0 (100000*(j+1)) (100000*(j+i+1)+q)with|some en=>some en|none=>vT r (j+1) (100000*(j+i+1)+q))=some en
  cases h0:jK b0 (100000*(j+1)) (100000*(j+i+1)+q)with
  |some en=>exact⟨en,rfl⟩
  |none=>
   simp only
   cases i with
   |zero=>
    simp at hb;subst hb;rw[gY,if_pos Aa,show 100000*(j+0+1)+q-100000*(j+1)=q from Aa,hy]at h0;cases y<;>simp_all [linear]
   |succ i=>
    have:=ih (j:=j+1) (i:=i) (q:=q) CO hy hl;rwa [show j+1+i+1=j+(i+1)+1 from Aa]at this
theorem bR0:∀(bs:List (List V)) (j i:Nat),(iP bs j)[i]? =if i<bs.length then some (100000+(j+i))else none:=by
 intro bs
 induction bs with
 |nil=>intro j i;simp[iP]
 |cons b r ih=>
  intro j i;have e:iP (b::r) j=(100000+j)::iP r (j+1):=rfl;rw[e]
  cases i with
  |zero=>simp
  |succ i=>simp only[List.getElem?_cons_succ,ih,List.length_cons,Nat.add_lt_add_iff_right,show j+1+i=j+(i+1) from Aa]
theorem cD7(bs:List (List V)):∀j,(iP bs j).length=bs.length:=by
 induction bs with
 |nil=>intro j;rfl
 |cons b r ih=>intro j;exact congrArg Nat.succ (ih (j+1))
theorem cT3{bx:Nat->Option (List V)}{gs:Grp}{is:List Nat}(h:aT2 bx gs is=true):(ownG gs).Nodup/\(∀k∈ownG gs,k∉mF gs)/\∀i∈is,∃cs,bx i=some cs:=by
 unfold aT2 at h;simp only[Bool.and_eq_true]at h;obtain⟨⟨h1,h2⟩,h5⟩:=h;refine⟨uU.1 h1,fun k hk hm=>?_,fun i hi=>?_⟩
 ·have:=dY.1 h2 k hk
  rw[pM.2 hm]at this;simp at this
 ·exact Jm
set_option maxHeartbeats 1600000 in
theorem dR3(inv:Inv T Φ σ a w G){xs ys:List V}{bs:List (List V)}{gs:Grp}(hgs:gs=(xs,ys)::eU σ.bx bs (iP bs 0))(hgive:xM T σ.ar (iP bs 0) gs)(hko:aT2 σ.bx gs (iP bs 0)=true)(vs:List Value)(hvs:∀(i:Nat) v x,vs[i]? =some v->xs[i]? =some x->Rv w G v x/\x.ok σ.hasB σ.hasA):
 ∃Gc:Gh,(∀(j:Nat) v y,vs[j]? =some v->ys[j]? =some y->RbB T w Gc bs.length j v y)/\BxOk T w Gc bs/\Gc.β=G.β/\(∀b,G.O b= .fz->Gc.O b= .fz)/\
  (∀b,Gc.O b≠ .ext->(G.O b= .fz/\Gc.O b= .fz)\/(∃k,G.O b= .ar k)\/(∃i,i<bs.length/\b=G.β (100000+i)/\Gc.O b= .bx (100000+i)))/\xs.length=ys.length:=by
 obtain⟨hnd,hdisj,hisb⟩:=cT3 hko;have hil:(iP bs 0).length=bs.length:=cD7 bs 0;have hget:∀(j:Nat),j<bs.length->(iP bs 0)[j]? =some (100000+j):=fun j hj=>by rw[bR0,if_pos hj,Nat.zero_add]
 have g0:gs[0]? =some (xs,ys):=by rw[hgs];rfl
 have gj:∀(j:Nat) b,bs[j]? =some b->gs[j+1]? =some ((σ.bx (100000+j)).getD [],b):=by
  intro j b h2;rw[hgs,List.getElem?_cons_succ];exact(aR3 hil j _).2 ⟨_,b,hget j (List.getElem?_eq_some_iff.1 h2).1,h2,rfl⟩
 have hgv:∀(γ:Nat) (g:List V×List V),gs[γ]? =some g->g.1.length=g.2.length/\∀(q:Nat) x y,g.1[q]? =some x->g.2[q]? =some y->aP8 T σ.ar (iP bs 0) x y:=fun γ g hg=>aB1 (aJ8 hgive γ g hg);generalize hok:ownG gs=ok at*;generalize hvk:mF gs=vk at*
 let pos:Nat->Nat:=fun k=> @dite _ (∃t,∃γ q,t=100000*γ+q/\PosG gs γ q k) (Classical.propDecidable _) (fun h=>h.choose) (fun _=>0)
 have hpos:∀ {γ q k},PosG gs γ q k->pos k=100000*γ+q:=by
  intro γ q k hp;exact Mc
 let Gc:Gh:={G with O:=fun b=>match G.O b with| .fz=> .fz| .ar k=>if k∈vk then .fz else if k∈ok then .ar (pos k)else .ext| .bx i=>if(100000<=i/\i<100000+bs.length)/\b=G.β i then .bx i else .ext| .ext=> .ext}
 have c_fz:∀b,G.O b= .fz->Gc.O b= .fz:=fun b hb=>BA
 have c_bi:∀b i,G.O b= .bx i->(100000<=i/\i<100000+bs.length)/\b=G.β i->Gc.O b= .bx i:=fun b i hb h=>by
  simp only[Gc];rw[hb];simp only;rw[if_pos h]
 have c_vk:∀b k,G.O b= .ar k->k∈vk->Gc.O b= .fz:=fun b k hb hk=>Df;have c_ok:∀b k,G.O b= .ar k->k∈ok->Gc.O b= .ar (pos k):=fun b k hb hk=>IZ
 have hkc:Keep w w G Gc:=⟨c_fz,fun _ _=>rfl⟩
 have hβc:∀b i,nth (iP bs 0) (b-100000)=some i->100000<=b->Gc.β b=G.β i:=by
  intro b i h1 h2;rw[uN,bR0]at h1;split at h1
  ·have:100000+(0+(b-100000))=i:=Option.some.inj h1
   rw[<-this,show 100000+(0+(b-100000))=b from Aa]
  ·cases h1
 have give:∀(γ q:Nat) (g:List V×List V) (v:Value) (x y:V),gs[γ]? =some g->g.1[q]? =some x->g.2[q]? =some y->Rv w G v x->x.ok σ.hasB σ.hasA->RbB T w Gc bs.length (100000*γ+q) v y:=by
  intro γ q g v x y hg hx hy hv hxo;rw[<-hil];exact MP
 refine⟨Gc,?_,?_,rfl,c_fz,?_,(hgv 0 _ g0).1⟩
 ·intro j v y hv hy
  have hj:j<xs.length:=Dh;have hx:xs[j]? =some xs[j] :=List.getElem?_eq_getElem hj
  obtain⟨e1,e2⟩:=hvs j v _ hv hx;have:=give 0 j (xs,ys) v _ y g0 hx hy e1 e2;rwa [Nat.mul_zero,Nat.zero_add]at this
 ·intro j b hb
  have hj:=(List.getElem?_eq_some_iff.1 hb).1;obtain⟨cs,hcs⟩:=hisb (100000+j) (List.mem_of_getElem? (hget j hj));obtain⟨c,t,q2,q3,q4⟩:=inv.box _ cs hcs;have hg:=gj j b hb
  rw[hcs]at hg;simp only[Option.getD_some]at hg;have hgl:=(hgv _ _ hg).1;refine⟨c_bi _ _ q4 ⟨⟨Aa,Aa⟩,rfl⟩,c,t,q2,?_,?_⟩
  ·have:=q3.len
   simp only[Array.length_toList]at this;rw[this];exact hgl
  ·intro q v y hv hy
   have hq:q<cs.length:=by
    have h1:=(List.getElem?_eq_some_iff.1 hy).1;have h2:cs.length=b.length:=hgl
    omega
   have hx:cs[q]? =some cs[q] :=List.getElem?_eq_getElem hq;have hv':c.toList[q]? =some v:=AZ
   exact⟨q3.one v (List.mem_of_getElem? hv'),give (j+1) q _ v _ y hg hx hy (q3.rel q v _ hv' hx) (aH.1 (inv.wfB _ cs hcs) _ (List.mem_of_getElem? hx))⟩
 ·intro b hb
  cases hO:G.O b with
  |ext=>exfalso;apply hb;simp only[Gc];rw[hO]
  |fz=>exact .inl ⟨rfl,c_fz b hO⟩
  |ar k=>exact .inr (.inl ⟨k,rfl⟩)
  |bx i=>
   by_cases hi:(100000<=i/\i<100000+bs.length)/\b=G.β i
   ·refine .inr (.inr ⟨i-100000,Aa,?_,?_⟩)
    ·rw[show 100000+(i-100000)=i from Aa];exact hi.2
    ·rw[show 100000+(i-100000)=i from Aa];exact c_bi b i hO hi
   ·exfalso;apply hb;simp only[Gc];rw[hO];simp only;rw[if_neg hi]
set_option maxHeartbeats 3200000 in
theorem dP3(hT:bP T P)(hm:P.follows .mixedOrders=true){f:FuncId}{fn:Func}(hf:P.funcs[f]? =some fn)(hc:callable P f=true){ys:List V}{bs:List (List V)}{r:V}{bs':List (List V)}(hn:ys.length<=fn.ntmps)(hn2:fn.ntmps<100000)(h8:bs.length<=8)(hb1:∀b∈bs,b.length<100000)(hlens:bs'.map List.length=bs.map List.length)(h:jR T P fn ys bs r bs'):aU2 T P f ys bs r bs':=by
 refine⟨hc,hlens,?_⟩;intro w G cs hcs htag hbx hbxok hargs hlay;have hbl:bs'.length=bs.length:=Di;unfold jR at h;split at h
 ·rename_i c hb
  let Φ:Fr:=⟨w,fun b=>(∃j,G.O b= .ar j)\/(∃i,G.O b= .bx i),fun b=>G.O b= .fz,fn.ntmps,fun _=>none,fun i=>if 100000<=i/\i<100000+bs.length then some (G.β i)else none,[],fun _=>none⟩
  let cellAt:Nat->Nat->Value:=fun j q=>match w.heap[G.β (100000+j)]? with|some (.cells c _ _)=>c.getD q undef|_=>undef
  let G0:Gh:={G with av:=fun k _=>if k<100000 then cs.getD k undef else cellAt (k/100000-1) (k% 100000)}
  have hav1:∀k,k<100000->G0.av k 0=cs.getD k undef:=fun k hk=>by simp only[G0];rw[if_pos hk]
  have hav2:∀j q,q<100000->G0.av (100000*(j+1)+q) 0=cellAt j q:=fun j q hq=>by
   simp only[G0];rw[if_neg Aa];rw[show(100000*(j+1)+q)/100000-1=j from Aa,show(100000*(j+1)+q)% 100000=q from Aa]
  have hkeep:Keep w w G G0:=⟨fun _ h=>h,fun _ _=>rfl⟩;have hyl:ys.length<100000:=Aa
  have hrb:∀(j:Nat) y,ys[j]? =some y->RbB T w G bs.length j (cs.getD j undef) y:=by
   intro j y hy;have hj:j<cs.size:=BV;exact hargs j _ y Gz hy
  have own1:∀ {j u e l},gJ T w G j u e l->u.oneCell'=true:=by
   intro j u e l h;exact Nb
  have cap1:∀ {u l},Rv w G u (.cap l)->u.oneCell'=true:=by
   intro u l h;exact Nv
  have nonlin:∀ {j v y},RbB T w G bs.length j v y->linear y=false->y.ok (fun i=>100000<=i/\i<100000+bs.length) (fun _ _=>False)/\Rv w G0 v y:=by
   intro j v y hr hl
   have:y.ok (fun i=>100000<=i/\i<100000+bs.length) (fun _ _=>False)/\Rv w G v y:=by
    unfold RbB at hr;split at hr
    ·simp[linear]at hl
    ·simp[linear]at hl
    ·exact hr
   exact⟨this.1,this.2.keep hkeep this.1 (fun _ _=>rfl) (fun _ _ h=>h.elim)⟩
  have lin1:∀ {j v y},RbB T w G bs.length j v y->linear y=true->v.oneCell'=true:=by
   intro j v y hr hl;unfold RbB at hr;split at hr
   ·exact own1 hr.2.2
   ·rcases hr.2.2 with q|q
    ·exact own1 q
    ·exact cap1 q.1
   ·rename_i hno1 hno2
    rw[oW hno1 hno2]at hl;cases hl
  have hboxes:∀(j:Nat) b,bs[j]? =some b->G.O (G.β (100000+j))= .bx (100000+j)/\∃c t,w.heap[G.β (100000+j)]? =some (.cells c t (0,0))/\c.size=b.length/\
   ∀(q:Nat) y,b[q]? =some y->c[q]? =some (cellAt j q)/\(cellAt j q).oneCell'=true/\RbB T w G bs.length (100000*(j+1)+q) (cellAt j q) y:=by
   intro j b hb;obtain⟨q1,c,t,q2,q3,q4⟩:=hbxok j b hb;refine⟨q1,c,t,q2,q3,fun q y hy=>?_⟩;have hq:q<c.size:=by rw[q3];exact(List.getElem?_eq_some_iff.1 hy).1
   have e1:cellAt j q=c[q] :=by simp only[cellAt];rw[q2];simp[hq]
   have e2:c[q]? =some c[q] :=by simp[hq]
   rw[e1];exact⟨e2,q4 q _ y e2 hy⟩
  have hbget:∀i cells,bB3 bs 0 i=some cells->∃j b,i=100000+j/\bs[j]? =some b/\cells=kW b (100000*(j+1)):=by
   intro i cells hi;rw[bI8]at hi;split at hi
   ·rename_i hle
    cases hb':bs[i- (100000+0)]? with
    |none=>rw[hb']at hi;cases hi
    |some b=>
     rw[hb']at hi;simp only[Option.map_some,Option.some.injEq]at hi;exact⟨i-100000,b,Aa,by simpa using hb',hi.symm⟩
   ·cases hi
  have hbof:∀j b,bs[j]? =some b->bB3 bs 0 (100000+j)=some (kW b (100000*(j+1))):=by
   intro j b hb';rw[bI8,if_pos Aa,show 100000+j- (100000+0)=j from Aa,hb'];rfl
  have hasB0:∀i,(100000<=i/\i<100000+bs.length)->(aG1 ys bs).hasB i:=by
   rintro i ⟨h1,h2⟩;have hj:i-100000<bs.length:=Aa;have:=hbof (i-100000) bs[i-100000] (List.getElem?_eq_getElem hj)
   rw[show 100000+(i-100000)=i from Aa]at this;exact⟨_,this⟩
  have hasA0:∀(s:Nat) y,ys[s]? =some y->linear y=true->(aG1 ys bs).hasA s 0:=by
   intro s y hy hl
   have:∃en,jK ys 0 s=some en:=by
    rw[gY];simp only[Nat.zero_le,if_true,Nat.sub_zero,hy];cases y<;>simp_all [linear]
   obtain⟨en,hen⟩:=this;exact⟨en,by show(match jK ys 0 s with|some en=>some en|none=>vT bs 0 s)=_;rw[hen],Nat.zero_le _⟩
  have hasA1:∀(j q:Nat) b y,bs[j]? =some b->b[q]? =some y->linear y=true->(aG1 ys bs).hasA (100000*(j+1)+q) 0:=by
   intro j q b y hb' hy hl;obtain⟨en,hen⟩:=cU9 (j:=0) hb' hy hl;rw[Nat.zero_add]at hen
   have h0:jK ys 0 (100000*(j+1)+q)=none:=by
    rw[gY];simp only[Nat.zero_le,if_true,Nat.sub_zero];rw[List.getElem?_eq_none Aa]
   exact⟨en,by show(match jK ys 0 _ with|some en=>some en|none=>vT bs 0 _)=_;rw[h0];exact hen,Nat.zero_le _⟩
  have harget:∀k en,(aG1 ys bs).ar k=some en->∃v y,RbB T w G bs.length k v y/\G0.av k 0=v/\((y= .own en.ty en.l/\en=⟨0, .own,en.ty,en.l⟩)\/(y= .ap en.ty en.l/\en=⟨0, .ap,en.ty,en.l⟩)):=by
   intro k en hen;have hen':(match jK ys 0 k with|some en=>some en|none=>vT bs 0 k)=some en:=hen
   split at hen'
   ·rename_i en' h0
    cases hen';rw[gY]at h0;simp only[Nat.zero_le,if_true,Nat.sub_zero]at h0;split at h0
    ·rename_i e l hy
     cases h0;exact⟨_,_,hrb k _ hy,hav1 k (by have:=(List.getElem?_eq_some_iff.1 hy).1;omega), .inl ⟨rfl,rfl⟩⟩
    ·rename_i e l hy
     cases h0;exact⟨_,_,hrb k _ hy,hav1 k (by have:=(List.getElem?_eq_some_iff.1 hy).1;omega), .inr ⟨rfl,rfl⟩⟩
    ·cases h0
   ·obtain⟨i,q,b,h1,h2,h3,h4⟩:=cC7 hb1 hen'
    rw[Nat.zero_add]at h2;have hq:q<100000:=by have:=hb1 b (List.mem_of_getElem? h1);omega
    obtain⟨_,c,t,_,_,hcell⟩:=hboxes i b h1;subst h2;rcases h4 with⟨h4,h5⟩|⟨h4,h5⟩
    ·exact⟨_,_,(hcell q _ h4).2.2,hav2 i q hq, .inl ⟨rfl,h5⟩⟩
    ·exact⟨_,_,(hcell q _ h4).2.2,hav2 i q hq, .inr ⟨rfl,h5⟩⟩
  have inv:Inv T Φ (aG1 ys bs) {tmps:=cs++Array.replicate (fn.ntmps-cs.size) undef,defers:=[]} w G0:=by
   constructor
   ·rfl
   ·intro s v h;cases h
   ·exact Jg
   ·intro s
    show Rv w G0 ((cs++Array.replicate (fn.ntmps-cs.size) undef).getD s undef) (pF ys 0 s);rw[lY];simp only[Nat.zero_le,if_true,Nat.sub_zero];by_cases hs:s<cs.size
    ·have hv:(cs++Array.replicate (fn.ntmps-cs.size) undef).getD s undef=cs.getD s undef:=by
      simp[Array.getElem?_append_left hs]
     have hy:ys[s]? =some ys[s] :=List.getElem?_eq_getElem Aa;rw[hv,hy];have hr:=hrb s _ hy
     generalize ys[s] =y at*;simp only
     cases hl:linear y with
     |false=>exact(nonlin hr hl).2
     |true=>
      have h1:=lin1 hr hl;have e:=hav1 s Aa
      rw[<-e]at h1⊢;exact Rv.arr (w:=w) (G:=G0) s 0 h1
    ·exact Hq
   ·intro s
    show(pF ys 0 s).ok _ _;rw[lY];simp only[Nat.zero_le,if_true,Nat.sub_zero]
    cases hy:ys[s]? with
    |none=>simp only[V.ok,V.okL]
    |some y=>
     simp only;have hr:=hrb s y hy
     cases hl:linear y with
     |false=>exact V.ok.imp hasB0 (fun _ _ h=>h.elim) _ (nonlin hr hl).1
     |true=>
      simp only[cond_true,V.ok];exact hasA0 s y hy hl
   ·intro i cells hi
    obtain⟨j,b,rfl,hb',rfl⟩:=hbget i cells hi;obtain⟨q1,c,t,q2,q3,q4⟩:=hboxes j b hb';refine⟨c,t,q2,⟨by rw[aR6];simpa using q3,fun v hv=>?_,fun q v x hv hx=>?_⟩,q1⟩
    ·obtain⟨q,hq⟩:=List.getElem?_of_mem hv
     have hqb:q<b.length:=by rw[<-q3];simpa using(List.getElem?_eq_some_iff.1 hq).1
     obtain⟨k1,k2,_⟩:=q4 q _ (List.getElem?_eq_getElem hqb);have:c[q]? =some v:=BX;rw[k1]at this;cases this;exact k2
    ·rw[aH4]at hx
     cases hy:b[q]? with
     |none=>rw[hy]at hx;cases hx
     |some y=>
      rw[hy]at hx;simp only[Option.map_some,Option.some.injEq]at hx;obtain⟨k1,k2,k3⟩:=q4 q y hy;have hv':c[q]? =some v:=AZ;rw[k1]at hv';cases hv'
      have hq:q<100000:=by
       have h1:=hb1 b (List.mem_of_getElem? hb');have h2:=(List.getElem?_eq_some_iff.1 hy).1
       omega
      cases hl:linear y with
      |false=>rw[hl]at hx;simp only[cond_false]at hx;subst hx;exact(nonlin k3 hl).2
      |true=>
       rw[hl]at hx;simp only[cond_true]at hx;subst hx;have e:=hav2 j q hq;rw[<-e]at k2⊢;exact Rv.arr (w:=w) (G:=G0) _ 0 k2
   ·intro i cells hi
    obtain⟨j,b,rfl,hb',rfl⟩:=hbget i cells hi;obtain⟨q1,c,t,q2,q3,q4⟩:=hboxes j b hb';refine aH.2 fun x hx=>?_;obtain⟨q,hq⟩:=List.getElem?_of_mem hx;rw[aH4]at hq
    cases hy:b[q]? with
    |none=>rw[hy]at hq;cases hq
    |some y=>
     rw[hy]at hq;simp only[Option.map_some,Option.some.injEq]at hq;obtain⟨k1,k2,k3⟩:=q4 q y hy
     cases hl:linear y with
     |false=>rw[hl]at hq;simp only[cond_false]at hq;subst hq;exact V.ok.imp hasB0 (fun _ _ h=>h.elim) _ (nonlin k3 hl).1
     |true=>rw[hl]at hq;simp only[cond_true]at hq;subst hq;simp only[V.ok];exact hasA1 j q b y hb' hy hl
   ·intro k en hen
    obtain⟨v,y,h1,h2,h3⟩:=harget k en hen;have hO:∀b,G.O b= .ar k->G0.O b= .ar k/\w.heap[b]? =w.heap[b]? :=fun b hb=>⟨hb,rfl⟩;rcases h3 with⟨rfl,h4⟩|⟨rfl,h4⟩
    ·obtain⟨q1,q2,q3⟩:=h1
     rw[h4];unfold gW;refine⟨q1,?_⟩;show gJ T w G0 k (G0.av k 0) _ _;rw[h2];exact q3.keep hkeep q2 hO
    ·obtain⟨q1,q2,q3⟩:=h1
     rw[h4];unfold gW;refine⟨q1,?_⟩;show gJ T w G0 k (G0.av k 0) _ _\/(Rv w G0 (G0.av k 0) _/\_);rw[h2];rcases q3 with q|q
     ·exact .inl (q.keep hkeep q2 hO)
     ·exact .inr ⟨q.1.aW hkeep Ei,q.2⟩
   ·intro k en hen
    obtain⟨v,y,h1,h2,h3⟩:=harget k en hen;rcases h3 with⟨rfl,h4⟩|⟨rfl,h4⟩
    ·exact h1.2.1
    ·exact h1.2.1
   ·exact htag
   ·intro b i hb';exact .inr (.inr ⟨i,hb'⟩)
   ·intro b k hb';exact .inr (.inl ⟨k,hb'⟩)
   ·intro b hb';exact .inl hb'
   ·intro b hb';exact hb'
   ·intro b _ _;rfl
   ·exact Nat.le_refl _
   ·rfl
   ·rfl
   ·rfl
   ·intro j v h;cases h
   ·refine⟨hlay,fun b hb'=>⟨htag b (by rw[show G.O b= .fz from hb'];simp),?_⟩⟩
    rintro(⟨j,hj⟩|⟨i,hi⟩)
    ·rw[show G.O b= .fz from hb']at hj;cases hj
    ·rw[show G.O b= .fz from hb']at hi;cases hi
   ·intro i b h'
    have h'':(if 100000<=i/\i<100000+bs.length then some (G.β i)else none)=some b:=h'
    split at h''
    ·rename_i hi
     cases h'';exact⟨rfl,⟨hi.1,Aa⟩,hasB0 i hi⟩
    ·cases h''
  refine wM hT hm hf hb (Φ:=Φ) rfl rfl rfl inv h ?_
  have fin:∀(e:Exit) (σ:St) (a':Act) (w':World) (G':Gh),retB T σ fn.results.toList r bs'->Inv T Φ σ a' w' G'->∃v,(results fn a'.tmps).run P w'= .ok v w'/\∃v0 Gr,(Ending.returned v= .returned v0)/\RrB T w' Gr bs.length v0 r/\BxOk T w' Gr bs'/\(∀i,i<bs.length->Gr.β (100000+i)=G.β (100000+i))/\
   (∀b,G.O b= .fz->Gr.O b= .fz)/\(∀b,Gr.O b≠ .ext->b<w'.heap.size)/\
   (∀b,Gr.O b≠ .ext->(G.O b= .fz/\Gr.O b= .fz)\/w.heap.size<=b\/(∃j,G.O b= .ar j)\/(∃i,G.O b= .bx i/\Gr.O b= .bx i))/\
   (∀b,b<w.heap.size->(∀j,G.O b≠ .ar j)->(∀i,G.O b≠ .bx i)->w'.heap[b]? =w.heap[b]?)/\
   w.heap.size<=w'.heap.size/\w'.os=w.os/\w'.tape=w.tape/\w'.output=w.output:=by
   intro e σ a' w' G' hret inv';replace hret:=hret.out;obtain⟨xs,vs,hk,hl1,hl2,hvs,hrun⟩:=aQ5 hT inv' _ _ hret;have hres:=aD1 hrun;refine⟨aI1 vs,hres,aI1 vs,?_⟩;have hβ:∀i,i<bs.length->G'.β (100000+i)=G.β (100000+i):=fun i hi=>(inv'.argb (100000+i) (G.β (100000+i)) Bd).1
   have common:∀(ys':List V),xM T σ.ar (iP bs' 0) ((xs,ys')::eU σ.bx bs' (iP bs' 0))->aT2 σ.bx ((xs,ys')::eU σ.bx bs' (iP bs' 0)) (iP bs' 0)=true->∃Gr:Gh,(∀(j:Nat) v y,vs[j]? =some v->ys'[j]? =some y->RbB T w' Gr bs.length j v y)/\xs.length=ys'.length/\BxOk T w' Gr bs'/\(∀i,i<bs.length->Gr.β (100000+i)=G.β (100000+i))/\
    (∀b,G.O b= .fz->Gr.O b= .fz)/\(∀b,Gr.O b≠ .ext->b<w'.heap.size)/\
    (∀b,Gr.O b≠ .ext->(G.O b= .fz/\Gr.O b= .fz)\/w.heap.size<=b\/(∃j,G.O b= .ar j)\/(∃i,G.O b= .bx i/\Gr.O b= .bx i)):=by
    intro ys' h1 h2;obtain⟨Gc,q1,q2,q3,q4,q5,q6⟩:=dR3 inv' rfl h1 h2 vs hvs;rw[hbl]at q1;refine⟨Gc,q1,q6,q2,fun i hi=>by rw[q3];exact hβ i hi,fun b hb=>q4 b (inv'.F0 b hb),fun b hb=>inv'.tag b ?_,fun b hb=>?_⟩
    ·rcases q5 b hb with⟨h,_⟩|⟨k,h⟩|⟨i,hi,h,_⟩
     ·rw[h];simp
     ·rw[h];simp
     ·obtain⟨_,_,cs0,hcs0⟩:=inv'.argb (100000+i) (G.β (100000+i)) Bd
      obtain⟨_,_,_,_,hO⟩:=inv'.box _ cs0 hcs0;rw[h,hO];simp
    ·rcases q5 b hb with⟨h,h'⟩|⟨k,h⟩|⟨i,hi,h,h'⟩
     ·rcases inv'.fzm b h with h2|h2
      ·exact .inl ⟨h2,h'⟩
      ·rcases h2 with h2|h2|⟨i,h2⟩
       ·exact .inr (.inl h2)
       ·exact .inr (.inr (.inl h2))
       ·exact IU
     ·rcases inv'.mineA b k h with h2|h2|⟨i,h2⟩
      ·exact .inr (.inl h2)
      ·exact .inr (.inr (.inl h2))
      ·exact IU
     ·rw[hβ i Aa]at h
      refine .inr (.inr (.inr ⟨100000+i,?_,h'⟩));rw[h];have hi':i<bs.length:=Aa;exact(hboxes i bs[i] (List.getElem?_eq_getElem hi')).1
   have frame:(∀b,b<w.heap.size->(∀j,G.O b≠ .ar j)->(∀i,G.O b≠ .bx i)->w'.heap[b]? =w.heap[b]?)/\w.heap.size<=w'.heap.size/\w'.os=w.os/\w'.tape=w.tape/\w'.output=w.output:=
    ⟨fun b hb hj hi=>inv'.frame b hb (by
     rintro(⟨j,h⟩|⟨i,h⟩)
     ·exact hj j h
     ·exact hi i h),inv'.size,inv'.os,inv'.tape,inv'.output⟩
   split at hk
   ·rename_i x
    obtain⟨g1,g2,g3⟩:=hk;obtain⟨Gr,q1,_,q2,q3,q4,q5,q6⟩:=common [r] g1 g2;obtain⟨v,rfl⟩:∃v,vs=[v] :=List.length_eq_one_iff.1 hl1;refine⟨Gr,rfl,?_,q2,q3,q4,q5,q6,frame⟩;have:=q1 0 v r rfl rfl;unfold RrB;split
    ·exact absurd rfl (g3 _)
    ·exact this
   ·rename_i hne
    obtain⟨ys',rfl,g1,g2⟩:=hk;obtain⟨Gr,q1,hlen,q2,q3,q4,q5,q6⟩:=common ys' g1 g2;refine⟨Gr,rfl,?_,q2,q3,q4,q5,q6,frame⟩;show∃us:Array Value,aI1 vs= .tuple us/\us.size=ys'.length/\∀(j:Nat) u y,us[j]? =some u->ys'[j]? =some y->RbB T w' Gr bs.length j u y;refine⟨vs.toArray,?_,by simp[hl1,hlen],fun j u y hu hy=>q1 j u y AX hy⟩
    exact MW
  intro e σ a' w' G' hq inv';exact Lr
 ·exact h.elim
end
end Go.Ab
