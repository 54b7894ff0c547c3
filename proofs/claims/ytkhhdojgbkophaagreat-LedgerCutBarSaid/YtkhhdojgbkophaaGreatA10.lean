/-
  Regions in the order of the text, code, functions.
-/
import Derived.Test.YtkhhdojgbkophaaGreatA9
import Derived.Laws.Cover3
import Derived.Deep.LoopGhost
set_option linter.unusedVariables false
set_option linter.unusedSimpArgs false
namespace Go.Ab
section
variable{T:Tab}{P:Program}{Φ:Fr}{σ:St}{a:Act}{w w':World}{G G':Gh}{K:VK}{o:Oper}{d:Nat}
theorem Inv.put'(ms:List Mod)(inv:Inv T Φ (σ.apps ms) a w G){dst:Option Nat}(hd:∀d,dst=some d->Φ.wr d){v':Value}{v:V}(hv:Rv w G v' v)(hok:v.ok (σ.apps ms).hasB (σ.apps ms).hasA):Inv T Φ (σ.put dst v ms) (a.put dst v') w G:=by
 cases dst with
 |none=>exact inv
 |some d=>exact inv.bA3 (hd d rfl) hv hok
theorem dX2{f:FuncId}{as:List Operand}{ts:Array TypeId}(ho:o.op= .call ⟨.value (.func f),⟨as⟩,ts⟩)(hc:callable P f=true):(execOp a.eval o).run P w= .ok (.enter f (as.map a.eval).toArray) w:=by
 unfold callable at hc
 split at hc
 ·rename_i fn hfn
  simp only[Bool.and_eq_true,bne_iff_ne]at hc
  have hb:fn.body≠none:=by intro h;rw[h]at hc;simp at hc
  simp[execOp,ho,resolve,Act.eval,Deferred.ofValue,invoke,callFunc,hfn,hb,hc.2]
 ·cases hc
theorem dO6{t g:Nat}{as:List Operand}{ts:Array TypeId}{lb:Array Value}(ho:o.op= .call ⟨.value (.tmp t),⟨as⟩,ts⟩)(ht:a.tmps.getD t undef= .func (.func g) #[] lb)(hc:callable P g=true):(execOp a.eval o).run P w= .ok (.enter g (as.map a.eval++lb.toList).toArray) w:=by
 unfold callable at hc
 split at hc
 ·rename_i fn hfn
  simp only[Bool.and_eq_true,bne_iff_ne]at hc
  have hb:fn.body≠none:=by intro h;rw[h]at hc;simp at hc
  have ht':a.eval (.tmp t)= .func (.func g) #[] lb:=ht
  simp[execOp,ho,resolve,ht',Deferred.ofValue,invoke,callFunc,hfn,hb,hc.2]
 ·cases hc
theorem aX3(inv:Inv T Φ σ a w G){light:Md}{t g:Nat}{as:List Operand}{caps:List V}(hfn:σ.env t= .fn g caps)(h:kY T P light σ d g (as.map σ.ev++caps) K):
 ∃lb:Array Value,a.tmps.getD t undef= .func (.func g) #[] lb/\callable P g=true/\Calls P g (as.map a.eval++lb.toList).toArray w fun e w'=>∃v',e= .returned v'/\∃v ms G',K v ms/\Inv T Φ (σ.apps ms) a w' G'/\Rv w' G' v' v/\v.ok (σ.apps ms).hasB (σ.apps ms).hasA:=by
 have he:=inv.env t
 have hwf:=inv.wfE t
 rw[hfn]at he hwf
 obtain⟨lb,e1,e2,e3⟩:=he.cU8
 simp only[V.ok]at hwf
 refine⟨lb,e1,cP8 inv (us:=as.map a.eval++lb.toList) (by simp[e2]) (fun i v x hv hx=>?_) h⟩
 rcases Nat.lt_or_ge i as.length with hi|hi
 ·rw[List.getElem?_append_left (by simpa using hi)]at hv hx
  have q1:v=a.eval as[i] :=by simpa [hi]using hv.symm
  have q2:x=σ.ev as[i] :=by simpa [hi]using hx.symm
  rw[q1,q2]
  exact inv.ev as[i]
 ·rw[List.getElem?_append_right (by simpa using hi)]at hv hx
  simp only[List.length_map]at hv hx
  refine⟨e3 _ v x (by simpa using hv) hx,?_⟩
  exact aH.1 hwf x (List.mem_of_getElem? hx)
theorem eM3{t e:TypeId}(hu:P.underlying t=some (.slice e))(ad:Option Addr)(n cp:Nat):(binOp .eql t (.slice ad n cp) (.slice none 0 0)).run P w= .ok (.bool ad.isNone) w:=by
 simp only[binOp]
 simp[run_equal_slice_nil w t e ad n cp hu]
theorem eG0(hT:bP T P)(inv:Inv T Φ σ a w G)(o:Oper)(hd:∀d,o.dst=some d->Φ.wr d){light:Md}(h:bW T P light σ d o.op K){Q:Exit->Act->World->Prop}:
 o.wp P a w (fun a' w'=>∃v ms G',K v ms/\Inv T Φ (σ.put o.dst v ms) a' w' G') Q:=by
 unfold bW at h
 split at h
 ·rename_i f as ts ho
  rw[bC,dU]at h
  obtain⟨hc,hcalls⟩:=bF2 inv as h
  unfold Oper.wp
  rw[dX2 ho hc,Oper.upon_enter]
  refine hcalls.mono ?_
  rintro e w1 ⟨v',rfl,v,ms,G',hk,inv',hv,hvo⟩
  refine⟨v,ms,G',hk,?_⟩
  exact Inv.put' ms inv' hd hv hvo
 ·rename_i t as ts ho
  split at h
  ·rename_i g caps hfn
   rw[bC,dU,bT]at h
   obtain⟨lb,e1,hc,hcalls⟩:=aX3 inv hfn h
   unfold Oper.wp
   rw[dO6 ho e1 hc,Oper.upon_enter]
   refine hcalls.mono ?_
   rintro e w1 ⟨v',rfl,v,ms,G',hk,inv',hv,hvo⟩
   exact⟨v,ms,G',hk,Inv.put' ms inv' hd hv hvo⟩
  ·exact h.elim
 ·rename_i t x lo hi mx ho
  have fin:∀ {K':VK} {ns:List Mod} {G1:Gh},Inv T Φ (σ.apps ns) a w G1->opVC T (σ.apps ns) d o.op K'->(∀v ms,K' v ms->K v (ns++ms))->o.wp P a w (fun a' w'=>∃v ms G',K v ms/\Inv T Φ (σ.put o.dst v ms) a' w' G') Q:=by
   intro K' ns G1 inv1 h1 hk1
   obtain⟨v',w1,v,ms,G',hr,hk,inv',hv,hvo⟩:=xQ hT inv1 o h1
   rw[<-dO]at inv' hvo
   unfold Oper.wp
   rcases hr with hr|⟨hr,rfl⟩
   ·rw[hr,Oper.upon_value]
    exact⟨v,ns++ms,G',hk1 _ _ hk,Inv.put' _ inv' hd hv hvo⟩
   ·rw[hr,Oper.upon_skip]
    exact⟨v,ns++ms,G',hk1 _ _ hk,Inv.put' _ inv' hd hv hvo⟩
  rw[<-ho]at h
  split at h
  ·split at h
   ·rename_i gen ty l hen
    obtain⟨O',inv1,_,_⟩:=inv.freeze hen (.inl rfl)
    exact fin inv1 h (fun _ _ hk=>hk)
   ·rename_i gen ty l hen
    obtain⟨O',inv1,_,_⟩:=inv.freeze hen (.inr rfl)
    exact fin inv1 h (fun _ _ hk=>hk)
   ·exact fin (ns:=[]) inv h (fun _ _ hk=>hk)
  ·exact fin (ns:=[]) inv h (fun _ _ hk=>hk)
 ·rename_i bop t x c t' ho
  split at h
  ·rename_i l hx
   obtain⟨c0,ty,kd,hop,hout⟩:=h
   subst c0
   have hu:∃e,P.underlying t=some (.slice e):=by
    obtain⟨dd,h1,h2,_⟩:=(hT t ty).und
    rw[kd]at h2
    cases dd<;>simp[kdOf]at h2
    exact⟨_,h1⟩
   obtain⟨e,hu⟩:=hu
   have hxv:=(inv.ev (.tmp x)).1
   have hxe:σ.ev (.tmp x)= .sl l:=hx
   rw[hxe]at hxv
   have fin:∀(ad:Option Addr) (n cp:Nat),a.eval (.tmp x)= .slice ad n cp->(l≠ []->ad.isNone=false)->o.wp P a w (fun a' w'=>∃v ms G',K v ms/\Inv T Φ (σ.put o.dst v ms) a' w' G') Q:=by
    intro ad n cp he hl
    have hk:=hout ad.isNone hl
    unfold Oper.wp
    rcases hop with rfl|rfl
    ·rw[yY (.tmp x) (.const (.slice none 0 0)) .eql t t' ho _ _ (.bool ad.isNone) he rfl (qZ _ _ _ _ _ _ (by simp) (by simp)) (eM3 hu ad n cp),Oper.upon_value]
     exact⟨_,_,G,hk,Inv.put' [] inv hd (B_ok _ _ _) dL⟩
    ·rw[yY (.tmp x) (.const (.slice none 0 0)) .neq t t' ho _ _ (.bool (!ad.isNone)) he rfl (qZ _ _ _ _ _ _ (by simp) (by simp)) (run_neq_slice_nil w t e ad n cp hu),Oper.upon_value]
     exact⟨_,_,G,hk,Inv.put' [] inv hd (B_ok _ _ _) dL⟩
   generalize hev:a.eval (.tmp x)=xv at hxv
   cases hxv with
   |slN=>exact fin none 0 0 hev (fun h=>absurd rfl h)
   |slS ad cp=>exact fin (some ad) _ cp hev (fun _=>rfl)
  ·rw[<-ho]at h
   obtain⟨v',w1,v,ms,G',hr,hk,inv',hv,hvo⟩:=xQ hT inv o h
   unfold Oper.wp
   rcases hr with hr|⟨hr,rfl⟩
   ·rw[hr,Oper.upon_value]
    exact⟨v,ms,G',hk,Inv.put' ms inv' hd hv hvo⟩
   ·rw[hr,Oper.upon_skip]
    exact⟨v,ms,G',hk,Inv.put' ms inv' hd hv hvo⟩
 ·obtain⟨v',w1,v,ms,G',hr,hk,inv',hv,hvo⟩:=xQ hT inv o h
  unfold Oper.wp
  rcases hr with hr|⟨hr,rfl⟩
  ·rw[hr,Oper.upon_value]
   refine⟨v,ms,G',hk,?_⟩
   exact Inv.put' ms inv' hd hv hvo
  ·rw[hr,Oper.upon_skip]
   refine⟨v,ms,G',hk,?_⟩
   exact Inv.put' ms inv' hd hv hvo
theorem bD0{ro:Option Nat}{f:FuncId}{args:Array Value}{w:World}{R:Ending->World->Prop}:CallsIn (FW ro) 0 P f args w R↔Calls P f args w R:=callsIn_wide
theorem dR1{ro:Option Nat}{row:String}{args:Array Value}{w:World}{R:Value->World->Prop}(h:Rows P row args w R):RowsIn (FW ro) 0 P row args w R:=fun c cs _=>by
 obtain⟨v,w',r,s⟩:=h c cs
 exact⟨v,w',r,(stepsIn_wide (P:=P)).2 s⟩
theorem dD1{ro:Option Nat}{o:Oper}(hd:∀c,o.op≠ .defer c){next:Act->World->Prop}{Q:Exit->Act->World->Prop}(h:o.wp P a w next Q):o.wpIn (FW ro) 0 P a w next Q:=by
 unfold Oper.wp at h
 refine⟨fun _ _=>trivial,?_⟩
 rw[Oper.semAt_eq _ _ _ hd]
 generalize (execOp a.eval o).run P w=r at h⊢
 cases r with
 |ok x w'=>
  cases x<;>simp only[Oper.upon,Oper.uponIn]at h⊢
  case value=>exact h
  case skip=>exact h
  case defer=>exact h
  case enter=>exact⟨fun hh=>by simp[FW,Fence.wide]at hh,bD0.2 h⟩
  case row=>exact⟨fun hh=>by simp[FW,Fence.wide]at hh,dR1 h⟩
 |halt x w'=>cases x<;>simp only[Oper.upon,Oper.uponIn]at h⊢<;>exact h
theorem eS3{light:Md}{op:Op}(h:bW T P light σ d op K):∀c,op≠ .defer c:=by
 rintro c rfl
 exact(h:False).elim
theorem dF4(hT:bP T P)(inv:Inv T Φ σ a w G)(o:Oper)(hd:∀d,o.dst=some d->Φ.wr d){light:Md}(h:bW T P light σ d o.op K){Q:Exit->Act->World->Prop}(ro:Option Nat):
 o.wpIn (FW ro) 0 P a w (fun a' w'=>∃v ms G',K v ms/\Inv T Φ (σ.put o.dst v ms) a' w' G') Q:=dD1 (eS3 h) (eG0 hT inv o hd h)
theorem cM8(ms:List Mod):∀(σ:St) (K:(Nat->V)->(Nat->Option (List V))->(Nat->Option AE)->Prop),dZ7 ms σ.env σ.bx σ.ar K=K (σ.apps ms).env (σ.apps ms).bx (σ.apps ms).ar:=by
 induction ms with
 |nil=>intro σ K;rfl
 |cons m r ih=>
  intro σ K
  have h1:σ.apps (m::r)=(m.app σ).apps r:=rfl
  rw[h1,<-ih (m.app σ) K]
  cases m<;>rfl
def Step(T:Tab)(P:Program)(light:Md)(n:Nat)(ops:List Oper)(o:Oper)(σ:St)(K:St->Prop):Prop:=
 match o.guard with
 |none=>((∀d,o.dst=some d->d<n)/\bW T P light σ (o.dst.getD n) o.op fun v ms=>K (σ.put o.dst v ms))\/
  (light= .free/\∃d g c cs,o.dst=some d/\d<n/\o.op= .makeFunc (.func g) ⟨[]⟩ ⟨c::cs⟩/\zX (T.ref g) σ.ar (c::cs) σ.env σ.bx fun env bx caps=>K ⟨upd env d (.fn g caps),bx,σ.ar⟩)\/
  (light= .free/\∃σ1,Le T σ σ1/\(∀d,o.dst=some d->d<n)/\bW T P light σ1 (o.dst.getD n) o.op fun v ms=>K (σ1.put o.dst v ms))
 |some (j,want)=>∃s,tV ops j=some s/\(∀d,o.dst=some d->d<n)/\
  ((∃b,σ.env s= .lit (.bool b)/\if b=want then bW T P light σ (o.dst.getD n) o.op fun v ms=>K (σ.put o.dst v ms)else K (σ.put o.dst (.tup []) []))\/(∃cs,σ.env s= .tup cs/\K (σ.put o.dst (.tup []) [])))
theorem qK{light:Md}{n:Nat}{dst:Option Nat}{op:Op}{ih:OpsK}{K:St->Prop}(h:aV2 T P light n dst op ih σ.env σ.bx σ.ar K):
 (∀d,dst=some d->d<n)/\bW T P light σ (dst.getD n) op fun v ms=>ih (σ.put dst v ms).env (σ.put dst v ms).bx (σ.put dst v ms).ar K:=by
 unfold aV2 at h
 cases dst with
 |none=>
  refine⟨(fun _ h=>by cases h),?_⟩
  have h':=h
  simp only[cM8 _ σ]at h'
  exact h'
 |some d=>
  obtain⟨hd,h2⟩:=aT h
  refine⟨(fun d' h=>by cases h;exact blt hd),?_⟩
  simp only[cM8 _ σ]at h2
  exact h2
theorem aD8{n:Nat}{dst:Option Nat}{ih:OpsK}{K:St->Prop}(h:bF6 n dst ih σ.env σ.bx σ.ar K):
 (∀d,dst=some d->d<n)/\ih (σ.put dst (.tup []) []).env (σ.put dst (.tup []) []).bx (σ.put dst (.tup []) []).ar K:=by
 unfold bF6 at h
 cases dst with
 |none=>exact⟨(fun _ h=>by cases h),h⟩
 |some d=>
  obtain⟨hd,h2⟩:=aT h
  exact⟨(fun d' h=>by cases h;exact blt hd),h2⟩
theorem cJ2{α:Type}(f:Nat->α)(s:Nat)(x:α)(h:f s=x):upd f s x=f:=by
 funext t
 by_cases e:t=s
 ·subst e;rw[upd_same];exact h.symm
 ·exact upd_ne f x e
theorem aX6{light:Md}{n:Nat}{ops:List Oper}{ih:OpsK}{K:St->Prop}(h:bH0 T P light n ops o ih σ.env σ.bx σ.ar K):
 Step T P light n ops o σ fun σ'=>ih σ'.env σ'.bx σ'.ar K:=by
 unfold bH0 at h
 obtain⟨dst,op,ty,pos,after,guard⟩:=o
 unfold Step
 simp only at h⊢
 cases guard with
 |none=>
  have h0:dB2 T P light n dst op ih σ.env σ.bx σ.ar K:=h
  unfold dB2 at h0
  split at h0
  ·rename_i g c cs
   split at h0
   ·rename_i d
    obtain⟨hd,h2⟩:=aT h0
    exact .inr (.inl ⟨rfl,d,g,c,cs,rfl,blt hd,rfl,h2⟩)
   ·exact h0.elim
  ·rename_i t m ps
   split at h0
   ·cases hc:allR (fun p:Nat×Operand=>allR V.atom (St.ev ⟨σ.env,σ.bx,σ.ar⟩ p.2).cells) ps.toList with
    |true=>rw[hc]at h0;exact .inl (qK h0)
    |false=>
     rw[hc]at h0
     obtain⟨σ1,hle,h1⟩:=cR5.out h0
     obtain⟨q1,q2⟩:=qK h1
     exact .inr (.inr ⟨rfl,σ1,hle,q1,q2⟩)
   ·exact .inl (qK h0)
  ·exact .inl (qK h0)
 |some g=>
  obtain⟨j,want⟩:=g
  simp only at h⊢
  split at h
  ·rename_i s hs
   refine⟨s,hs,?_⟩
   split at h
   ·rename_i b hb
    cases b with
    |true=>
     rw[show upd σ.env s (B true)=σ.env from cJ2 _ _ _ hb]at h
     cases want with
     |true=>
      obtain⟨h1,h2⟩:=qK (σ:=σ) h
      exact⟨h1, .inl ⟨true,hb,by simpa using h2⟩⟩
     |false=>
      obtain⟨h1,h2⟩:=aD8 (σ:=σ) h
      exact⟨h1, .inl ⟨true,hb,by simpa using h2⟩⟩
    |false=>
     rw[show upd σ.env s (B false)=σ.env from cJ2 _ _ _ hb]at h
     cases want with
     |true=>
      obtain⟨h1,h2⟩:=aD8 (σ:=σ) h
      exact⟨h1, .inl ⟨false,hb,by simpa using h2⟩⟩
     |false=>
      obtain⟨h1,h2⟩:=qK (σ:=σ) h
      exact⟨h1, .inl ⟨false,hb,by simpa using h2⟩⟩
   ·rename_i cs hb
    obtain⟨h1,h2⟩:=aD8 (σ:=σ) h
    exact⟨h1, .inr ⟨cs,hb,h2⟩⟩
   ·exact h.elim
  ·exact h.elim
def Run(T:Tab)(P:Program)(light:Md)(n:Nat)(ops:List Oper):List Oper->St->(St->Prop)->Prop
 | [],σ,K=>K σ
 |o::r,σ,K=>Step T P light n ops o σ fun σ'=>Run T P light n ops r σ' K
theorem aJ6(rf:Bool)(ar:Nat->Option AE)(c:Operand)(r:List Operand)(env:Nat->V)(bx:Nat->Option (List V))(K:(Nat->V)->(Nat->Option (List V))->List V->Prop):zX rf ar (c::r) env bx K=(match St.ev ⟨env,bx,ar⟩ c with
 | .box i off=>match off,bx i with
  |0,some cells=>match rf with
   |true=>zX rf ar r env bx fun env bx caps=>K env bx (.box i 0::caps)
   |false=>bJ cells fun cells=>cond (allR V.atom cells&&Nat.blt i 100000) (zX rf ar r (fun s=>(env s).frz i cells) (frzB i cells bx) fun env bx caps=>K env bx (.fp cells::caps)) False
  |_,_=>False
 | .fp cs=>zX rf ar r env bx fun env bx caps=>K env bx (.fp cs::caps)
 |_=>False):=rfl
theorem dS4{rf:Bool}{ar:Nat->Option AE}{xs:List Operand}:∀ {env:Nat->V} {bx:Nat->Option (List V)} {K K':(Nat->V)->(Nat->Option (List V))->List V->Prop},(∀env bx caps,K env bx caps->K' env bx caps)->zX rf ar xs env bx K->zX rf ar xs env bx K':=by
 induction xs with
 |nil=>intro env bx K K' hk h;exact hk _ _ _ h
 |cons c r ih=>
  intro env bx K K' hk h
  rw[aJ6]at h⊢
  split at h
  ·rename_i i off hev
   split at h
   ·rename_i cells hb
    cases rf with
    |true=>exact ih (fun env bx caps=>hk _ _ _) h
    |false=>
     simp only at h⊢
     rw[bC]at h
     obtain⟨ha,h2⟩:=aT h
     rw[bC,ha,cond_true]
     exact ih (fun env bx caps=>hk _ _ _) h2
   ·exact h.elim
  ·exact ih (fun env bx caps=>hk _ _ _) h
  ·exact h.elim
theorem dB3{x:V}{p:Nat->Prop}{q:Nat->Nat->Prop}(h:x.atom=true)(hok:x.ok p q):x.pure:=by
 cases x with
 |lit u=>simp only[V.pure,V.ok]
 |sl l=>simp only[V.pure,V.ok]at hok⊢;exact hok
 |cap l=>simp only[V.pure,V.ok]at hok⊢;exact hok
 |fn g l=>simp only[V.pure,V.ok]at hok⊢;exact wC h hok
 |_=>simp[V.atom]at h
theorem eI4{xs:List Operand}:∀ {σ:St} {G:Gh} {K:(Nat->V)->(Nat->Option (List V))->List V->Prop},Inv T Φ σ a w G->zX false σ.ar xs σ.env σ.bx K->
 ∃env bx caps G',K env bx caps/\Inv T Φ ⟨env,bx,σ.ar⟩ a w G'/\Keep w w G G'/\caps.length=xs.length/\bM caps/\∀(i:Nat) c x,xs[i]? =some c->caps[i]? =some x->Rv w G' (a.eval c) x:=by
 induction xs with
 |nil=>intro σ G K inv h;exact⟨σ.env,σ.bx,[],G,h,inv,Keep.refl w G,rfl,by simp only[V.okL],fun i c x hc=>by simp at hc⟩
 |cons c r ih=>
  intro σ G K inv h
  rw[aJ6]at h
  have hev:St.ev ⟨σ.env,σ.bx,σ.ar⟩ c=σ.ev c:=rfl
  obtain⟨hv,hok⟩:=inv.ev c
  have fin:∀ {caps:List V} {G1 G':Gh} {x0:V},Keep w w G1 G'->Rv w G1 (a.eval c) x0->x0.pure->(∀(i:Nat) c x,r[i]? =some c->caps[i]? =some x->Rv w G' (a.eval c) x)->∀(i:Nat) c' x,(c::r)[i]? =some c'->(x0::caps)[i]? =some x->Rv w G' (a.eval c') x:=by
   intro caps G1 G' x0 hk h0 hp hr i c' x hc hx
   cases i with
   |zero=>simp at hc hx;subst hc;subst hx;exact h0.aW hk hp
   |succ i=>exact hr i c' x (by simpa using hc) (by simpa using hx)
  split at h
  ·rename_i i off hb0
   split at h
   ·rename_i cells hb
    simp only at h
    rw[bC]at h
    obtain⟨ha,h2⟩:=aT h
    rw[Bool.and_eq_true]at ha
    have hcs:bM cells:=aH.2 fun x hx=>dB3 (dY.1 ha.1 x hx) (aH.1 (inv.wfB i cells hb) x hx)
    obtain⟨inv1,hk1⟩:=inv.bV0 hb (blt ha.2) hcs
    obtain⟨env,bx,caps,G',q1,q2,q3,q4,q5,q6⟩:=ih (σ:=⟨fun s=>(σ.env s).frz i cells,frzB i cells σ.bx,σ.ar⟩) inv1 h2
    obtain⟨cc,tt,w1,w2,w3⟩:=inv.box i cells hb
    have hfp:Rv w {G with O:=upd G.O (G.β i) .fz} (a.eval c) (.fp cells):=by
     have hbx:σ.ev c= .box i 0:=hb0
     have:=hv.frz w1 w2 hcs w3 hok
     rw[hbx,zG,List.drop_zero]at this
     exact this
    have hfpp:(V.fp cells).pure:=by simp only[V.pure,V.ok];exact hcs
    exact⟨env,bx,_,G',q1,q2,⟨fun b hb=>q3.fz b (hk1.fz b hb),fun _ _=>rfl⟩,by simp[q4],by simp only[V.okL];exact⟨hfpp,q5⟩,fin q3 hfp hfpp q6⟩
   ·exact h.elim
  ·rename_i cs hb0
   obtain⟨env,bx,caps,G',q1,q2,q3,q4,q5,q6⟩:=ih (σ:=σ) inv h
   have hbx:σ.ev c= .fp cs:=hb0
   rw[hbx]at hv hok
   have hfpp:(V.fp cs).pure:=by simp only[V.pure,V.ok]at hok⊢;exact hok
   exact⟨env,bx,_,G',q1,q2,q3,by simp[q4],by simp only[V.okL];exact⟨hfpp,q5⟩,fin q3 hv hfpp q6⟩
  ·exact h.elim
theorem eF6{xs:List Operand}(inv:Inv T Φ σ a w G):∀ {K:(Nat->V)->(Nat->Option (List V))->List V->Prop},zX true σ.ar xs σ.env σ.bx K->
 ∃caps,K σ.env σ.bx caps/\caps.length=xs.length/\V.okL σ.hasB σ.hasA caps/\∀(i:Nat) c x,xs[i]? =some c->caps[i]? =some x->Rv w G (a.eval c) x:=by
 induction xs with
 |nil=>intro K h;exact⟨[],h,rfl,by simp only[V.okL],fun i c x hc=>by simp at hc⟩
 |cons c r ih=>
  intro K h
  rw[aJ6]at h
  obtain⟨hv,hok⟩:=inv.ev c
  have fin:∀(x0:V),σ.ev c=x0->(zX true σ.ar r σ.env σ.bx fun env bx caps=>K env bx (x0::caps))->∃caps,K σ.env σ.bx caps/\caps.length=(c::r).length/\V.okL σ.hasB σ.hasA caps/\∀(i:Nat) c' x,(c::r)[i]? =some c'->caps[i]? =some x->Rv w G (a.eval c') x:=by
   intro x0 he h
   obtain⟨caps,q1,q2,q3,q4⟩:=ih h
   rw[he]at hv hok
   refine⟨x0::caps,q1,by simp[q2],by simp only[V.okL];exact⟨hok,q3⟩,fun i c' x hc hx=>?_⟩
   cases i with
   |zero=>simp at hc hx;subst hc;subst hx;exact hv
   |succ i=>exact q4 i c' x (by simpa using hc) (by simpa using hx)
  split at h
  ·rename_i i off hb0
   split at h
   ·exact fin _ hb0 h
   ·exact h.elim
  ·rename_i cs hb0
   exact fin _ hb0 h
  ·exact h.elim
theorem dA6{rf:Bool}{xs:List Operand}{K:(Nat->V)->(Nat->Option (List V))->List V->Prop}(inv:Inv T Φ σ a w G)(h:zX rf σ.ar xs σ.env σ.bx K):
 ∃env bx caps G',K env bx caps/\Inv T Φ ⟨env,bx,σ.ar⟩ a w G'/\caps.length=xs.length/\V.okL (St.hasB ⟨env,bx,σ.ar⟩) (St.hasA ⟨env,bx,σ.ar⟩) caps/\∀(i:Nat) c x,xs[i]? =some c->caps[i]? =some x->Rv w G' (a.eval c) x:=by
 cases rf with
 |true=>
  obtain⟨caps,q1,q2,q3,q4⟩:=eF6 inv h
  exact⟨σ.env,σ.bx,caps,G,q1,inv,q2,q3,q4⟩
 |false=>
  obtain⟨env,bx,caps,G',q1,q2,q3,q4,q5,q6⟩:=eI4 inv h
  exact⟨env,bx,caps,G',q1,q2,q4,aH.2 fun x hx=>V.pure.ok (aH.1 q5 x hx) _ _,q6⟩
theorem Step.mono{light:Md}{n:Nat}{ops:List Oper}{K K':St->Prop}(hm:∀(σ:St) (K1 K2:VK),(∀v ms,K1 v ms->K2 v ms)->bW T P light σ (o.dst.getD n) o.op K1->bW T P light σ (o.dst.getD n) o.op K2)(h:Step T P light n ops o σ K)(hk:∀σ',K σ'->K' σ'):Step T P light n ops o σ K':=by
 unfold Step at*
 split at h
 ·rcases h with h|⟨h0,d,g,c,cs,h1,h2,h3,h4⟩|⟨h0,σ1,h1,h2,h3⟩
  ·exact .inl ⟨h.1,hm _ _ _ (fun v ms=>hk _) h.2⟩
  ·exact .inr (.inl ⟨h0,d,g,c,cs,h1,h2,h3,dS4 (fun env bx caps=>hk _) h4⟩)
  ·exact .inr (.inr ⟨h0,σ1,h1,h2,hm _ _ _ (fun v ms=>hk _) h3⟩)
 ·obtain⟨s,h1,h2,h3⟩:=h
  refine⟨s,h1,h2,?_⟩
  rcases h3 with⟨b,q1,q2⟩|⟨cs,q1,q2⟩
  ·refine .inl ⟨b,q1,?_⟩
   split at q2
   ·rename_i hb;rw[if_pos hb];exact hm _ _ _ (fun v ms=>hk _) q2
   ·rename_i hb;rw[if_neg hb];exact hk _ q2
  ·exact .inr ⟨cs,q1,hk _ q2⟩
theorem xK(w:World)(G:Gh):Rv w G undef (.tup []):= .tup #[] [] rfl (fun i c x hc=>by simp at hc)
theorem bZ3(hT:bP T P)(inv:Inv T Φ σ a w G){light:Md}{ops:List Oper}{K:St->Prop}{opsA:Array Oper}(hA:opsA.toList=ops)(hkp:∀d,o.dst=some d->Φ.keep d=none)(h:Step T P light Φ.n ops o σ K){Q:Exit->Act->World->Prop}(ro:Option Nat):
 if Region.wanted o (yielded opsA a.tmps)=true then o.wpIn (FW ro) 0 P a w (fun a' w'=>∃σ' G',K σ'/\Inv T Φ σ' a' w' G') Q else∃G',∃σ',K σ'/\Inv T Φ σ' (a.put o.dst undef) w G':=by
 unfold Step at h
 have run:(∀d,o.dst=some d->d<Φ.n)->(bW T P light σ (o.dst.getD Φ.n) o.op fun v ms=>K (σ.put o.dst v ms))->o.wpIn (FW ro) 0 P a w (fun a' w'=>∃σ' G',K σ'/\Inv T Φ σ' a' w' G') Q:=by
  intro hd hop
  refine Oper.wpIn_mono ?_ (dF4 hT inv o (fun d h=>⟨hd d h,hkp d h⟩) hop (Q:=Q) ro)
  rintro a' w' ⟨v,ms,G',hk,inv'⟩
  exact⟨_,G',hk,inv'⟩
 have skip:(∀d,o.dst=some d->d<Φ.n)->K (σ.put o.dst (.tup []) [])->∃G',∃σ',K σ'/\Inv T Φ σ' (a.put o.dst undef) w G':=by
  intro hd hk
  refine⟨G,_,hk,?_⟩
  exact Inv.put' [] inv (fun d h=>⟨hd d h,hkp d h⟩) (xK w G) (by simp only[V.ok,V.okL])
 split at h
 ·rename_i hg
  rw[if_pos (by simp[Region.wanted,hg])]
  rcases h with h|⟨_,d,g,c,cs,h1,h2,h3,h4⟩|⟨_,σ1,h1,h2,h3⟩
  ·exact run h.1 h.2
  rotate_left
  ·unfold Le at h1
   obtain⟨G1,inv1⟩:=h1 Φ a w G inv
   refine Oper.wpIn_mono ?_ (dF4 hT inv1 o (fun d h=>⟨h2 d h,hkp d h⟩) h3 (Q:=Q) ro)
   rintro a' w' ⟨v,ms,G',hk,inv'⟩
   exact⟨_,G',hk,inv'⟩
  ·obtain⟨env,bx,caps,G',q1,q2,q4,q5,q6⟩:=dA6 inv h4
   have hr:(execOp a.eval o).run P w= .ok (.value (.func (.func g) #[] ((c::cs).map a.eval).toArray)) w:=by
    simp[execOp,h3,Instr.makeFunc]
   refine dD1 (fun c=>by rw[h3];exact fun h=>by cases h) ?_
   unfold Oper.wp
   rw[hr,Oper.upon_value]
   refine⟨_,G',q1,?_⟩
   rw[h1]
   refine Inv.bA3 (σ:=⟨env,bx,σ.ar⟩) q2 ⟨h2,hkp d h1⟩ ?_ (by simp only[V.ok];exact q5)
   refine .fn g _ caps (by simp[q4]) (fun i u x hu hx=>?_)
   have hi:i< (c::cs).length:=by rw[<-q4];exact(List.getElem?_eq_some_iff.1 hx).1
   have hu':u=a.eval (c::cs)[i] :=by
    have h5:((c::cs).map a.eval)[i]? =some u:=by rw[<-hu];exact(List.getElem?_toArray ..).symm
    rw[List.getElem?_map,List.getElem?_eq_getElem hi]at h5
    exact(Option.some.inj h5).symm
   rw[hu']
   exact q6 i _ x (List.getElem?_eq_getElem hi) hx
 ·rename_i j want hg
  obtain⟨s,h1,h2,h3⟩:=h
  have hslot:(opsA[j]?).bind (·.dst)=some s:=by
   unfold tV at h1
   rw[uN,<-hA]at h1
   simpa using h1
  have hw:Region.wanted o (yielded opsA a.tmps)=(yielded opsA a.tmps j==some want):=by simp[Region.wanted,hg]
  have he:=inv.env s
  rcases h3 with⟨b,q1,q2⟩|⟨cs,q1,q2⟩
  ·rw[q1]at he
   have hv:=he.bH
   have hs:a.tmps[s]? =some (.bool b):=by
    cases h:a.tmps[s]? with
    |none=>simp[h,undef]at hv
    |some u=>simp[h]at hv;rw[hv]
   have hy:yielded opsA a.tmps j=some b:=by simp[yielded,hslot,hs]
   rw[hw,hy]
   by_cases hb:b=want
   ·subst hb
    simp only[if_true]at q2
    rw[if_pos (by simp)]
    exact run h2 q2
   ·rw[if_neg hb]at q2
    rw[if_neg (by simpa using hb)]
    exact skip h2 q2
  ·rw[q1]at he
   obtain⟨vs,hv,_⟩:=he.eP1
   have hy:yielded opsA a.tmps j=none:=by
    simp only[yielded,hslot,Option.bind_some]
    cases h:a.tmps[s]? with
    |none=>rfl
    |some u=>
     simp[h]at hv
     rw[hv]
   rw[hw,hy,if_neg (by simp)]
   exact skip h2 q2
theorem eB0(hT:bP T P){light:Md}{ops:List Oper}{K:St->Prop}{opsA:Array Oper}(hA:opsA.toList=ops){Q:Exit->Act->World->Prop}(ro:Option Nat)(hQ:∀σ' a' w' G',K σ'->Inv T Φ σ' a' w' G'->Q .normal a' w'):
 ∀(l:List Oper) (σ:St) (a:Act) (w:World) (G:Gh),(∀o∈l,∀d,o.dst=some d->Φ.keep d=none)->Inv T Φ σ a w G->Run T P light Φ.n ops l σ K->wpListIn (FW ro) 0 P opsA Q l a w:=by
 intro l
 induction l with
 |nil=>intro σ a w G _ inv h;exact hQ σ a w G h inv
 |cons o r ih=>
  intro σ a w G hkp inv h
  have:=bZ3 hT inv hA (o:=o) (hkp o (by simp)) h (Q:=Q) ro
  unfold wpListIn
  split
  ·rename_i hw
   rw[if_pos hw]at this
   exact Oper.wpIn_mono (fun a' w' ⟨σ',G',hk,inv'⟩=>ih σ' a' w' G' (fun o ho=>hkp o (by simp[ho])) inv' hk) this
  ·rename_i hw
   rw[if_neg hw]at this
   obtain⟨G',σ',hk,inv'⟩:=this
   exact⟨fun _ _=>trivial,ih σ' _ w G' (fun o ho=>hkp o (by simp[ho])) inv' hk⟩
end
def Det(Φ:VK->Prop):Prop:=∀K,Φ K->∃v ms,K v ms/\∀K',K' v ms->Φ K'
def DetL(Φ:(List V->Prop)->Prop):Prop:=∀K,Φ K->∃l,K l/\∀K',K' l->Φ K'
theorem Det.ret(v:V)(ms:List Mod):Det (fun K=>K v ms):=fun _ h=>⟨v,ms,h,fun _ h=>h⟩
theorem Det.false:Det (fun _=>False):=fun _ h=>h.elim
theorem Det.need{p:Prop}{Φ:VK->Prop}(h:Det Φ):Det (fun K=>need p (Φ K)):=fun K hk=>by
 obtain⟨hp,hk⟩:=dX hk
 obtain⟨v,ms,h1,h2⟩:=h K hk
 exact⟨v,ms,h1,fun K' hk'=>by refine⟨?_⟩;exact⟨hp,h2 K' hk'⟩⟩
theorem Det.arith{k:IntKind}{n:Int}{Φ:Int->VK->Prop}(h:∀m,Det (Φ m)):Det (fun K=>arith k n fun m=>Φ m K):=fun K hk=>by
 obtain⟨v,ms,h1,h2⟩:=h _ K (wI hk)
 exact⟨v,ms,h1,fun K' hk'=>by refine⟨?_⟩;exact h2 K' hk'⟩
theorem Det.idx{l:List V}{i:Nat}{Φ:V->VK->Prop}(h:∀x,Det (Φ x)):Det (fun K=>idx l i fun x=>Φ x K):=fun K hk=>by
 obtain⟨x,hx,hk⟩:=cO3 hk
 obtain⟨v,ms,h1,h2⟩:=h x K hk
 exact⟨v,ms,h1,fun K' hk'=>by refine⟨?_⟩;exact⟨x,hx,h2 K' hk'⟩⟩
theorem Det.bytes{xs:List V}{Φ:List Int->VK->Prop}(h:∀ns,Det (Φ ns)):Det (fun K=>aZ0 xs fun ns=>Φ ns K):=fun K hk=>by
 obtain⟨ns,hx,hk⟩:=cC4 hk
 obtain⟨v,ms,h1,h2⟩:=h ns K hk
 exact⟨v,ms,h1,fun K' hk'=>by refine⟨?_⟩;exact⟨ns,hx,h2 K' hk'⟩⟩
theorem Det.map{es:List V}{s:Value}{z:V}{Φ:V->VK->Prop}(h:∀x,Det (Φ x)):Det (fun K=>eG6 es s z fun x=>Φ x K):=fun K hk=>by
 obtain⟨v,ms,h1,h2⟩:=h _ K hk.out
 exact⟨v,ms,h1,fun K' hk'=>⟨h2 K' hk'⟩⟩
theorem Det.force{x:V}{Φ:V->VK->Prop}(h:∀x,Det (Φ x)):Det (fun K=>force x fun y=>Φ y K):=fun K hk=>by
 have hk':Ab.force x (fun y=>Φ y K):=hk
 rw[force_eq]at hk'
 obtain⟨v,ms,h1,h2⟩:=h x K hk'
 exact⟨v,ms,h1,fun K' hk'=>by show Ab.force x (fun y=>Φ y K');rw[force_eq];exact h2 K' hk'⟩
theorem Det.bJ{l:List V}{Φ:List V->VK->Prop}(h:∀l,Det (Φ l)):Det (fun K=>bJ l fun y=>Φ y K):=fun K hk=>by
 have hk':Ab.bJ l (fun y=>Φ y K):=hk
 rw[bC]at hk'
 obtain⟨v,ms,h1,h2⟩:=h l K hk'
 exact⟨v,ms,h1,fun K' hk'=>by show Ab.bJ l (fun y=>Φ y K');rw[bC];exact h2 K' hk'⟩
theorem Det.cond{b:Bool}{Φ Ψ:VK->Prop}(h:Det Φ)(h':Det Ψ):Det (fun K=>cond b (Φ K) (Ψ K)):=by
 cases b
 ·exact h'
 ·exact h
theorem Det.branch{b:Bool}{Φ Ψ:VK->Prop}(h:Det Φ)(h':Det Ψ):Det (fun K=>branch b (Φ K) (Ψ K)):=by
 cases b
 ·exact h'
 ·exact h
theorem Det.lF{σ:St}{x:V}{Φ:List V->VK->Prop}(h:∀l,Det (Φ l)):Det (fun K=>lF σ x fun l=>Φ l K):=by
 unfold Ab.lF
 cases x with
 |sl l=>exact h l
 |cap l=>exact h l
 |lit u=>
  cases u with
  |slice b n c=>
   cases b with
   |none=>
    cases n with
    |zero=>
     cases c with
     |zero=>exact h []
     |succ c=>exact Det.false
    |succ n=>exact Det.false
   |some b=>exact Det.false
  |_=>exact Det.false
 |arr k g=>
  simp only
  cases σ.ar k with
  |none=>exact Det.false
  |some en=>exact Det.need (h _)
 |_=>exact Det.false
theorem Det.lV{σ:St}{x:V}{Φ:List V->VK->Prop}(h:∀l,Det (Φ l)):Det (fun K=>lV σ x fun l=>Φ l K):=by
 unfold Ab.lV
 cases x with
 |sl l=>exact h l
 |cap l=>exact h l
 |lit u=>
  cases u with
  |slice b n c=>
   cases b with
   |none=>
    cases n with
    |zero=>
     cases c with
     |zero=>exact h []
     |succ c=>exact Det.false
    |succ n=>exact Det.false
   |some b=>exact Det.false
  |_=>exact Det.false
 |arr k g=>
  simp only
  cases σ.ar k with
  |none=>exact Det.false
  |some en=>exact Det.need (h _)
 |_=>exact Det.false
theorem Det.bound{o:Option V}{dflt:Int}{Φ:Int->VK->Prop}(h:∀n,Det (Φ n)):Det (fun K=>bound o dflt fun n=>Φ n K):=by
 unfold Ab.bound
 cases o with
 |none=>exact h _
 |some v=>
  cases v with
  |lit u=>
   cases u with
   |int k n=>exact h n
   |_=>exact Det.false
  |_=>exact Det.false
theorem yF(r:Row)(cs:List V):Det (wB r cs):=by
 unfold wB
 cases r.agg with
 |true=>exact Det.bJ fun l=>Det.cond (Det.ret _ _) Det.false
 |false=>
  cases cs with
  |nil=>exact Det.false
  |cons x r=>exact Det.force fun v=>Det.ret _ _
theorem aR1(place:Nat->Option (Nat×Nat))(σ:St)(ps:List (Nat×Operand)):∀(cs:List V) (Φ:List V->VK->Prop),(∀l,Det (Φ l))->Det (fun K=>oI place σ ps cs fun l=>Φ l K):=by
 induction ps with
 |nil=>
  intro cs Φ h
  exact Det.bJ (l:=cs) h
 |cons p r ih=>
  intro cs Φ h
  have hdef:∀K,oI place σ (p::r) cs K=(match place p.1 with
   |some (o,z)=>cond (Nat.beq (lenR (σ.ev p.2).cells) z&&Nat.ble (o+z) (lenR cs)&&allR V.one (σ.ev p.2).cells) (oI place σ r (splice cs o (σ.ev p.2).cells) K) False
   |none=>False):=fun K=>rfl
  simp only[hdef]
  cases place p.1 with
  |none=>exact Det.false
  |some q=>exact Det.cond (ih _ Φ h) Det.false
theorem bD9(T:Tab)(σ:St)(d:Nat)(o:Op):Det (opVC T σ d o):=by
 unfold opVC
 split
 ·exact Det.force fun v=>Det.ret _ _
 ·exact Det.force fun v=>Det.ret _ _
 ·unfold bA8
  split
  ·exact Det.branch (Det.force fun v=>Det.ret _ _) (Det.force fun v=>Det.ret _ _)
  ·exact Det.false
 ·unfold unVC
  split
  ·exact Det.ret _ _
  ·exact Det.arith fun m=>Det.ret _ _
  ·exact Det.false
 ·unfold bD7
  split
  ·refine Det.cond ?_ Det.false
   unfold cM6
   split<;>first|exact Det.arith fun m=>Det.ret _ _|exact Det.need (Det.arith fun m=>Det.ret _ _)|exact Det.need (Det.ret _ _)|exact Det.ret _ _|exact Det.false
  ·unfold cH0
   split<;>first|exact Det.need (Det.ret _ _)|exact Det.ret _ _|exact Det.false
  ·refine Det.cond ?_ Det.false
   unfold bG1
   split<;>first|exact Det.ret _ _|exact Det.false
  ·refine Det.cond ?_ Det.false
   unfold aL1
   split
   ·refine Det.need ?_
    split<;>first|exact Det.ret _ _|exact Det.false
   ·refine Det.need ?_
    split<;>first|exact Det.ret _ _|exact Det.false
   ·exact Det.false
  ·exact Det.false
 ·unfold lM
  split
  ·exact Det.bJ fun l=>Det.cond (Det.ret _ _) Det.false
  ·exact Det.false
 ·refine Det.cond ?_ Det.false
  unfold lM
  split
  ·exact Det.bJ fun l=>Det.cond (Det.ret _ _) Det.false
  ·exact Det.false
 ·refine Det.cond ?_ Det.false
  unfold jB
  split
  ·refine Det.cond Det.false ?_
   split
   ·exact Det.ret _ _
   ·exact Det.bJ fun l=>Det.ret _ _
   ·exact Det.ret _ _
   ·exact Det.false
  ·exact Det.false
 ·refine Det.cond ?_ Det.false
  unfold aM2
  split
  ·exact Det.cond (yF _ _) Det.false
  ·exact Det.false
 ·refine Det.cond ?_ Det.false
  unfold pW
  split
  ·split
   ·exact yF _ _
   ·exact Det.false
  ·exact yF _ _
  ·split
   ·exact Det.need (Det.idx fun x=>Det.cond (yF _ _) Det.false)
   ·exact Det.false
  ·exact Det.false
 ·refine Det.cond ?_ Det.false
  unfold qU
  split
  ·split
   ·exact Det.cond (Det.bJ fun l=>Det.ret _ _) Det.false
   ·exact Det.false
  ·split
   ·exact Det.need (Det.idx fun x=>Det.cond (Det.bJ fun l=>Det.ret _ _) Det.false)
   ·exact Det.false
  ·exact Det.false
 ·refine Det.cond ?_ Det.false
  unfold gI
  split
  ·split
   ·exact Det.need (Det.idx fun x=>Det.bJ fun l=>Det.cond (Det.ret _ _) Det.false)
   ·exact Det.need (Det.idx fun x=>Det.bJ fun l=>Det.cond (Det.ret _ _) Det.false)
   ·split
    ·exact Det.need (Det.cond (Det.ret _ _) Det.false)
    ·exact Det.false
   ·exact Det.false
  ·split
   ·exact Det.cond (Det.ret _ _) Det.false
   ·exact Det.cond (Det.bJ fun l=>Det.ret _ _) Det.false
   ·exact Det.false
  ·exact Det.false
 ·refine Det.cond ?_ Det.false
  unfold aM6
  split
  ·exact Det.need (Det.ret _ _)
  ·exact Det.cond (yF _ _) Det.false
  ·exact Det.false
 ·unfold wZ
  split
  ·split
   ·exact Det.force fun v=>Det.ret _ _
   ·exact Det.false
  ·exact Det.false
 ·exact Det.ret _ _
 ·refine Det.cond ?_ Det.false
  unfold vO
  split
  ·exact aR1 _ _ _ _ (fun cs K=>K (.agg cs) []) fun l=>Det.ret _ _
  ·exact Det.cond (aR1 _ _ _ _ (fun cs K=>K (.agg cs) []) fun l=>Det.ret _ _) Det.false
  ·exact Det.false
 ·refine Det.cond ?_ Det.false
  unfold iZ
  split
  ·refine Det.cond ?_ Det.false
   exact aR1 _ _ _ _ (fun cs K=>cond (allR V.atom cs) (K _ _) False) fun l=>Det.cond (Det.ret _ _) Det.false
  ·exact Det.false
 ·refine Det.cond ?_ Det.false
  unfold jY
  split
  ·exact Det.need (Det.cond (Det.ret _ _) Det.false)
  ·exact Det.false
 ·refine Det.cond ?_ Det.false
  unfold sZ
  split
  ·split
   ·exact Det.bound (Φ:=fun l K=>bound _ _ fun h=>need _ (K _ _)) fun l=>Det.bound (Φ:=fun h K=>need _ (K _ _)) fun h=>Det.need (Det.ret _ _)
   ·exact Det.false
  ·refine Det.cond ?_ Det.false
   refine Det.lV fun xs=>Det.bound fun l=>Det.bound fun h=>?_
   split
   ·exact Det.need (Det.ret _ _)
   ·split
    ·exact Det.false
    ·exact Det.bound fun m=>Det.need (Det.ret _ _)
  ·exact Det.false
 ·unfold aF1
  split
  ·exact Det.cond (Det.lF fun xs=>Det.bytes fun ns=>Det.ret _ _) Det.false
  unfold bE4
  split
  ·exact Det.arith fun m=>Det.ret _ _
  ·exact Det.ret _ _
  ·exact Det.false
 ·refine Det.cond ?_ Det.false
  split
  ·unfold aE9
   split<;>first|exact Det.ret _ _|exact Det.false|(split<;>first|exact Det.need (Det.ret _ _)|exact Det.false)
  ·unfold aI4
   split<;>first|exact Det.ret _ _|exact Det.false
  ·exact Det.false
 ·refine Det.cond ?_ Det.false
  unfold kT
  split
  ·refine Det.cond ?_ Det.false
   refine Det.lF fun xs=>?_
   split
   ·split<;>first|exact Det.need (Det.ret _ _)|exact Det.false
   ·split<;>first|exact Det.need (Det.ret _ _)|exact Det.false
   ·split<;>first|exact Det.need (Det.ret _ _)|exact Det.false
   ·exact Det.false
  ·exact Det.false
 ·unfold rP
  split<;>first|exact Det.ret _ _|exact Det.false
 ·unfold rP
  split<;>first|exact Det.ret _ _|exact Det.false
 ·refine Det.cond ?_ Det.false
  unfold oN
  split
  ·exact Det.cond (Det.ret _ _) Det.false
  ·exact Det.false
 ·refine Det.cond ?_ Det.false
  unfold rG
  split
  ·split
   ·split
    ·refine Det.need (Det.cond ?_ Det.false)
     split
     ·exact Det.map fun v=>Det.ret _ _
     ·exact Det.false
    ·exact Det.false
   ·exact Det.false
  ·exact Det.false
 ·refine Det.cond ?_ Det.false
  unfold iE
  split
  ·split
   ·split
    ·exact Det.need (Det.cond (Det.ret _ _) Det.false)
    ·exact Det.false
   ·exact Det.false
  ·exact Det.false
 ·refine Det.cond ?_ Det.false
  unfold iE
  split
  ·split
   ·split
    ·exact Det.need (Det.cond (Det.ret _ _) Det.false)
    ·exact Det.false
   ·exact Det.false
  ·exact Det.false
 ·exact Det.cond (Det.force fun v=>Det.ret _ _) Det.false
 ·exact Det.false
theorem bQ5(σ:St)(d:Nat)(rs:List V):∀(j:Nat) (ro:Option (Nat×Nat)) (Φ:List V->List Mod->VK->Prop),(∀vs ms,Det (Φ vs ms))->Det (fun K=>uF σ d rs j ro fun vs ms=>Φ vs ms K):=by
 induction rs with
 |nil=>intro j ro Φ h;exact h [] []
 |cons y r ih=>
  intro j ro Φ h
  simp only[qL]
  split
  ·split
   ·exact ih _ _ (fun vs ms K=>Φ _ _ K) fun vs ms=>h _ _
   ·split
    ·exact ih _ _ (fun vs ms K=>Φ _ _ K) fun vs ms=>h _ _
    ·exact Det.false
  ·split
   ·exact ih _ _ (fun vs ms K=>Φ _ _ K) fun vs ms=>h _ _
   ·split
    ·exact ih _ _ (fun vs ms K=>Φ _ _ K) fun vs ms=>h _ _
    ·exact Det.false
  ·exact Det.force fun y=>ih _ _ (fun vs ms K=>Φ _ _ K) fun vs ms=>h _ _
theorem dK3(σ:St)(d:Nat)(ro:Option (Nat×Nat))(r:V)(f:List Mod->List Mod):Det (fun K=>zZ σ d ro r fun v ms=>K v (f ms)):=by
 unfold zZ
 split
 ·exact bQ5 _ _ _ _ _ (fun vs ms K=>K (.tup vs) (f ms)) fun vs ms=>Det.ret _ _
 ·refine bQ5 _ _ _ _ _ (fun vs ms K=>match vs with|v::_=>K v (f ms)| [] =>False) fun vs ms=>?_
  cases vs with
  |nil=>exact Det.false
  |cons v r=>exact Det.ret _ _
theorem bT4{ar:Nat->Option AE}{ok:List Nat}{N:Nat}{kd:AK}{e:TypeId}{l:List V}{x:V}{Φ:V->Mod->VK->Prop}(h:∀v m,Det (Φ v m)):Det (fun K=>xO ar ok N kd e l x fun v m=>Φ v m K):=by
 unfold xO
 split
 ·split
  ·split
   ·exact h _ _
   ·exact Det.false
  ·split
   ·exact h _ _
   ·exact Det.false
 ·split
  ·exact h _ _
  ·exact Det.false
theorem aR4(ar:Nat->Option AE)(is ok:List Nat)(ys:List V):∀(xs:List V) (N:Nat) (Φ:List V->List Mod->VK->Prop),(∀vs ms,Det (Φ vs ms))->Det (fun K=>oJ ar is ok ys xs N fun vs ms=>Φ vs ms K):=by
 induction ys with
 |nil=>
  intro xs N Φ h
  cases xs with
  |nil=>exact h [] []
  |cons x r=>exact Det.false
 |cons y r ih=>
  intro xs N Φ h
  cases xs with
  |nil=>exact Det.false
  |cons x xr=>
   simp only[zL]
   split
   ·exact bT4 (Φ:=fun v m K=>oJ ar is ok r xr (N+1000) fun vs ms=>Φ (v::vs) (m::ms) K) fun v m=>ih _ _ (fun vs ms K=>Φ _ _ K) fun vs ms=>h _ _
   ·exact bT4 (Φ:=fun v m K=>oJ ar is ok r xr (N+1000) fun vs ms=>Φ (v::vs) (m::ms) K) fun v m=>ih _ _ (fun vs ms K=>Φ _ _ K) fun vs ms=>h _ _
   ·exact Det.force fun y=>ih _ _ (fun vs ms K=>Φ _ _ K) fun vs ms=>h _ _
theorem bO6(bx:Nat->Option (List V))(ar:Nat->Option AE)(is0 ok:List Nat)(bs:List (List V)):∀(is:List Nat) (N:Nat) (Φ:List Mod->VK->Prop),(∀ms,Det (Φ ms))->Det (fun K=>aB3 bx ar is0 ok bs is N fun ms=>Φ ms K):=by
 induction bs with
 |nil=>
  intro is N Φ h
  cases is with
  |nil=>exact h []
  |cons x r=>exact Det.false
 |cons b r ih=>
  intro is N Φ h
  cases is with
  |nil=>exact Det.false
  |cons i ir=>
   simp only[aJ1]
   split
   ·exact aR4 _ _ _ _ _ _ (fun vs ms K=>aB3 bx ar is0 ok r ir (N+1000000) fun ns=>Φ (appR ms (.b i vs::ns)) K) fun vs ms=>ih _ _ (fun ns K=>Φ _ K) fun ns=>h _
   ·exact Det.false
theorem dO0(bx:Nat->Option (List V))(ar:Nat->Option AE)(is ok:List Nat)(d:Nat)(r:V)(bs:List (List V))(f:List Mod->List Mod):Det (fun K=>aX2 bx ar is ok d r bs fun v ms=>K v (f ms)):=by
 unfold aX2
 split
 ·exact aR4 _ _ _ _ _ _ (fun vs ms K=>aB3 bx ar is ok bs is (d+1000000) fun ns=>K (.tup vs) (f (appR ms ns))) fun vs ms=>bO6 _ _ _ _ _ _ _ (fun ns K=>K _ _) fun ns=>Det.ret _ _
 ·refine aR4 _ _ _ _ _ _ (fun vs ms K=>match vs with|v::_=>aB3 bx ar is ok bs is (d+1000000) fun ns=>K v (f (appR ms ns))| [] =>False) fun vs ms=>?_
  cases vs with
  |nil=>exact Det.false
  |cons v r=>exact bO6 _ _ _ _ _ _ _ (fun ns K=>K _ _) fun ns=>Det.ret _ _
theorem cJ6(T:Tab)(P:Program)(light:Md)(σ:St)(d:Nat)(f:FuncId)(xs:List V):Det (kY T P light σ d f xs):=by
 intro K h
 rcases h.out with⟨ys,r,lend,h1,h2,h3,h4⟩|⟨h0,ys,r,j,k,g,e,l,l',h1,h2,h3,h4,h5,h6,h7⟩|⟨ys,is,bs,r,bs',h0,h1,h2,h3,h4⟩
 case inr.inl=>exact⟨r,_,h7,fun K' hk=>⟨.inr (.inl ⟨h0,ys,r,j,k,g,e,l,l',h1,h2,h3,h4,h5,h6,hk⟩)⟩⟩
 case inr.inr=>
  obtain⟨v,ms,q1,q2⟩:=dO0 σ.bx σ.ar is (ownG ((xs,ys)::eU σ.bx bs is)) d r bs' (fun ms=>appR (aV σ (mF ((xs,ys)::eU σ.bx bs is))) (appR (aX σ (ownG ((xs,ys)::eU σ.bx bs is))) ms)) K h4
  exact⟨v,ms,q1,fun K' hk=>⟨.inr (.inr ⟨ys,is,bs,r,bs',h0,h1,h2,h3,q2 K' hk⟩)⟩⟩
 obtain⟨v,ms,q1,q2⟩:=dK3 σ d (reuse σ (bD ys xs)) r (fun ms=>appR (cond lend [] (aV σ (bK ys xs))) (appR (aX σ (bD ys xs)) ms)) K h4
 refine⟨v,ms,q1,fun K' hk=>?_⟩
 refine⟨.inl ?_⟩
 exact⟨ys,r,lend,h1,h2,h3,q2 K' hk⟩
theorem bU4(T:Tab)(P:Program)(light:Md)(σ:St)(d:Nat)(op:Op):Det (bW T P light σ d op)\/(light= .free/\∃bop t c l,∀K,bW T P light σ d op K=bV3 T bop t c l K):=by
 unfold bW
 split
 ·exact .inl (Det.bJ fun xs=>cJ6 _ _ _ _ _ _ _)
 ·refine .inl ?_
  split
  ·exact Det.bJ fun xs=>cJ6 _ _ _ _ _ _ _
  ·exact Det.false
 ·refine .inl ?_
  have shift:∀(σ1:St) (o:Op) (m:Mod),Det (fun K=>opVC T σ1 d o fun v ms=>K v (m::ms)):=fun σ1 o m K h=>by
   obtain⟨v,ms,q1,q2⟩:=bD9 T σ1 d o _ h
   exact⟨v,m::ms,q1,fun K' hk=>q2 _ hk⟩
  split
  ·split
   ·exact shift _ _ _
   ·exact shift _ _ _
   ·exact bD9 _ _ _ _
  ·exact bD9 _ _ _ _
 ·split
  ·exact .inr ⟨rfl,_,_,_,_,fun K=>rfl⟩
  ·exact .inl (bD9 _ _ _ _)
 ·exact .inl (bD9 _ _ _ _)
theorem cH1(T:Tab)(P:Program)(hv:List (Nat×List Nat))(σ:St)(d:Nat)(op:Op):Det (bW T P (.drawn hv) σ d op):=by
 rcases bU4 T P (.drawn hv) σ d op with h|⟨h,_⟩
 ·exact h
 ·cases h
theorem aR8{T:Tab}{P:Program}{light:Md}{σ:St}{d:Nat}{op:Op}{K1 K2:VK}(hk:∀v ms,K1 v ms->K2 v ms)(h:bW T P light σ d op K1):bW T P light σ d op K2:=by
 rcases bU4 T P light σ d op with hd|⟨_,bop,t,c,l,he⟩
 ·obtain⟨v,ms,q1,q2⟩:=hd K1 h
  exact q2 K2 (hk v ms q1)
 ·rw[he]at h⊢
  exact⟨h.c0,h.ty,h.kd,h.op,fun b hb=>hk _ _ (h.out b hb)⟩
def Is(v:V)(ms:List Mod):VK:=fun v' ms'=>v'=v/\ms'=ms
def Mod.same(σ σ':St):Mod->Prop
 | .b i _=>σ'.bx i=σ.bx i
 | .a k _=>σ'.ar k=σ.ar k
def Mod.fresh(σ:St):Mod->Prop
 | .b i _=>σ.bx i=none
 | .a k _=>σ.ar k=none
def Mod.key(p:Nat->Prop)(q:Nat->Nat->Prop):Mod->Prop
 | .b i _=>p i
 | .a k _=>∃g,q k g
abbrev V.agr(σ σ':St)(x:V):Prop:=x.ok (fun i=>σ'.bx i=σ.bx i) (fun k _=>σ'.ar k=σ.ar k)
section
variable{T:Tab}{P:Program}{σ σ':St}{d:Nat}{v:V}{ms:List Mod}
theorem bJ6{cs:List V}(hm:∀m∈ms,m.same σ σ')(h:lM σ d cs (Is v ms)):lM σ' d cs (Is v ms):=by
 unfold lM at*
 split at h
 ·rename_i hb
  have h':=h
  rw[bC]at h'
  obtain⟨_,h2⟩:=aT h'
  have:=hm (.b d cs) (by rw[<-h2.2];simp)
  rw[show σ'.bx d=none from this.trans hb]
  exact h
 ·exact h.elim
theorem dW7{r:Row}{x:V}(hx:x.agr σ σ')(h:pW r σ x (Is v ms)):pW r σ' x (Is v ms):=by
 unfold pW at*
 cases x<;>simp only at h⊢
 case box i off=>simp only[V.agr,V.ok]at hx;rw[hx];exact h
 case fp cs=>exact h
 case ae k g sz i off=>simp only[V.agr,V.ok]at hx;rw[hx];exact h
theorem dJ9{r:Row}{x y:V}(hx:x.agr σ σ')(h:qU r σ x y (Is v ms)):qU r σ' x y (Is v ms):=by
 unfold qU at*
 cases x<;>simp only at h⊢
 case box i off=>simp only[V.agr,V.ok]at hx;rw[hx];exact h
 case ae k g sz i off=>simp only[V.agr,V.ok]at hx;rw[hx];exact h
theorem bO4{r:Row}{x i:V}(hx:x.agr σ σ')(h:gI T r σ x i (Is v ms)):gI T r σ' x i (Is v ms):=by
 cases x
 case arr k g=>
  simp only[V.agr,V.ok]at hx
  unfold gI at*
  simp only[hx]at h⊢
  exact h
 all_goals exact h
theorem bS6{x:V}{K:List V->Prop}(hx:x.agr σ σ')(h:lF σ x K):lF σ' x K:=by
 unfold lF at h
 split at h
 ·exact h
 ·exact h
 ·exact h
 ·rename_i k g
  simp only[V.agr,V.ok]at hx
  unfold lF
  simp only[hx]
  exact h
 ·exact h.elim
theorem dA4{x:V}{K:List V->Prop}(hx:x.agr σ σ')(h:lV σ x K):lV σ' x K:=by
 unfold lV at h
 split at h
 ·exact h
 ·exact h
 ·exact h
 ·rename_i k g
  simp only[V.agr,V.ok]at hx
  unfold lV
  simp only[hx]
  exact h
 ·exact h.elim
theorem eN2{x:V}(hx:x.agr σ σ')(h:aE9 σ x (Is v ms)):aE9 σ' x (Is v ms):=by
 unfold aE9 at h
 split at h
 ·exact h
 ·exact h
 ·exact h
 ·rename_i k g
  simp only[V.agr,V.ok]at hx
  unfold aE9
  simp only[hx]
  exact h
 ·exact h.elim
theorem dK8{r:Row}{x:V}{lo hi mx:Option V}(hx:x.agr σ σ')(h:sZ T r σ x lo hi mx (Is v ms)):sZ T r σ' x lo hi mx (Is v ms):=by
 unfold sZ at*
 split at h
 ·exact h
 ·rename_i hkd
  obtain⟨h1,h2⟩:=aT h
  have h3:=dA4 hx h2
  rw[h1];exact h3
 ·exact h.elim
theorem aS7{place:Nat->Option (Nat×Nat)}{ps:List (Nat×Operand)}:∀ {cs:List V} {K:List V->Prop},(∀p∈ps,σ'.ev p.2=σ.ev p.2)->oI place σ ps cs K->oI place σ' ps cs K:=by
 induction ps with
 |nil=>intro cs K _ h;exact h
 |cons p r ih=>
  intro cs K he h
  have hdef:∀(σ:St) K,oI place σ (p::r) cs K=(match place p.1 with
   |some (o,z)=>cond (Nat.beq (lenR (σ.ev p.2).cells) z&&Nat.ble (o+z) (lenR cs)&&allR V.one (σ.ev p.2).cells) (oI place σ r (splice cs o (σ.ev p.2).cells) K) False
   |none=>False):=fun σ K=>rfl
  rw[hdef]at h⊢
  rw[he p (by simp)]
  split at h
  ·obtain⟨h1,h2⟩:=aT h
   simp only[h1]
   exact ih (fun q hq=>he q (by simp[hq])) h2
  ·exact h.elim
theorem aU7{place:Nat->Option (Nat×Nat)}{ps:List (Nat×Operand)}:∀ {cs:List V} {K:List V->Prop},oI place σ ps cs K->∃cs',K cs':=by
 induction ps with
 |nil=>intro cs K h;have h':bJ cs K:=h;rw[bC]at h';exact⟨_,h'⟩
 |cons p r ih=>
  intro cs K h
  have hdef:∀(σ:St) K,oI place σ (p::r) cs K=(match place p.1 with
   |some (o,z)=>cond (Nat.beq (lenR (σ.ev p.2).cells) z&&Nat.ble (o+z) (lenR cs)&&allR V.one (σ.ev p.2).cells) (oI place σ r (splice cs o (σ.ev p.2).cells) K) False
   |none=>False):=fun σ K=>rfl
  rw[hdef]at h
  split at h
  ·obtain⟨h1,h2⟩:=aT h
   exact ih h2
  ·exact h.elim
theorem dM6{r:Row}{ps:List (Nat×Operand)}(he:∀p∈ps,σ'.ev p.2=σ.ev p.2)(h:vO T r σ ps (Is v ms)):vO T r σ' ps (Is v ms):=by
 unfold vO at*
 split at h
 ·exact aS7 he h
 ·obtain⟨h1,h2⟩:=aT h
  rw[h1]
  exact aS7 he h2
 ·exact h.elim
theorem bB6{r:Row}{n:Nat}{ps:List (Nat×Operand)}(he:∀p∈ps,σ'.ev p.2=σ.ev p.2)(hm:∀m∈ms,m.same σ σ')(h:iZ T r σ d n ps (Is v ms)):iZ T r σ' d n ps (Is v ms):=by
 unfold iZ at*
 split at h
 ·rename_i hkd hd
  obtain⟨h1,h2⟩:=aT h
  obtain⟨cs',h3⟩:=aU7 h2
  obtain⟨_,_,h4⟩:=aT h3
  have:=hm _ (by rw[<-h4];exact List.mem_singleton.2 rfl)
  simp only[show σ'.ar d=none from this.trans hd,hkd]
  rw[h1]
  exact aS7 he h2
 ·exact h.elim
theorem bN2{r:Row}{n c:V}(hm:∀m∈ms,m.same σ σ')(h:jY T r σ d n c (Is v ms)):jY T r σ' d n c (Is v ms):=by
 unfold jY at*
 split at h
 ·rename_i hkd hd
  have h':=(dX h).2
  obtain⟨_,_,h4⟩:=aT h'
  have:=hm _ (by rw[<-h4];exact List.mem_singleton.2 rfl)
  simp only[show σ'.ar d=none from this.trans hd,hkd]
  exact h
 ·exact h.elim
theorem eQ1{x:V}{K:List V->Prop}(h:lF σ x K):∃l,K l:=by
 unfold lF at h
 split at h
 ·exact⟨_,h⟩
 ·exact⟨_,h⟩
 ·exact⟨_,h⟩
 ·split at h
  ·exact⟨_,(dX h).2⟩
  ·exact h.elim
 ·exact h.elim
theorem eK7{x:V}{K:List V->Prop}(h:lV σ x K):∃l,K l:=by
 unfold lV at h
 split at h
 ·exact⟨_,h⟩
 ·exact⟨_,h⟩
 ·exact⟨_,h⟩
 ·split at h
  ·exact⟨_,(dX h).2⟩
  ·exact h.elim
 ·exact h.elim
theorem cS8{x:V}{K K':List V->Prop}(hk:∀l,K l->K' l)(h:lF σ x K):lF σ x K':=by
 unfold lF at*
 split at h
 ·exact hk _ h
 ·exact hk _ h
 ·exact hk _ h
 ·split at h
  ·obtain⟨h1,h2⟩:=dX h
   refine⟨?_⟩
   exact⟨h1,hk _ h2⟩
  ·exact h.elim
 ·exact h.elim
theorem cY6{r:Row}{s x:V}(hs:s.agr σ σ')(hx:x.agr σ σ')(hm:∀m∈ms,m.same σ σ')(h:kT T r σ d s x (Is v ms)):kT T r σ' d s x (Is v ms):=by
 unfold kT at*
 split at h
 ·rename_i hkd
  obtain⟨h1,h2⟩:=aT h
  rw[h1]
  refine bS6 hx (cS8 (fun xs h=>?_) h2)
  split at h
  ·split at h
   ·rename_i hd
    obtain⟨_,_,h4⟩:=dX h
    have:=hm _ (by rw[<-h4];exact List.mem_singleton.2 rfl)
    simp only[show σ'.ar d=none from this.trans hd]
    exact h
   ·exact h.elim
  ·split at h
   ·rename_i hd
    obtain⟨_,_,h4⟩:=dX h
    have:=hm _ (by rw[<-h4];exact List.mem_singleton.2 rfl)
    simp only[show σ'.ar d=none from this.trans hd]
    exact h
   ·exact h.elim
  ·rename_i k g
   simp only[V.agr,V.ok]at hs
   simp only[hs]
   exact h
  ·exact h.elim
 ·exact h.elim
end
end Go.Ab
