/-
  Iterators, carried out: how many items have been taken stands beside the state.
-/
import Derived.Test.YtdjgbagnajikeaaGreatDoorA14
import Derived.Deep.Slices
import Derived.ChangeSame
import Derived.Carry
import Derived.OpenShut
import Derived.ProofKit
set_option linter.unusedVariables false
set_option linter.unusedSimpArgs false
noncomputable section
namespace Go.Ab
section
abbrev ItQ:=Exit->Option Nat->St->Prop
abbrev ItC:=Option Nat->St->ItQ->Prop
def yieldOf(env:Nat->V)(o:Oper):Option (Nat×List Operand):=
 match o.op with
 | .call ⟨.value (.tmp t),⟨as⟩,_⟩=>match env t with| .lit (.func (.yield l) ⟨[]⟩ ⟨[]⟩)=>some (l,as)|_=>none
 |_=>none
structure dC9(items:List (List V))(l l':Nat)(k:Nat)(xs:List V)(A B:Prop):Prop where
 out:l'=l/\items[k]? =some xs/\bM xs/\A/\B
abbrev ItO:=Option Nat->(Nat->V)->(Nat->Option (List V))->(Nat->Option AE)->(Option Nat->St->Prop)->Prop
def cV6(T:Tab)(P:Program)(n:Nat)(items:List (List V))(yl:Nat)(ops:List Oper)(o:Oper)(ih:ItO):ItO:=fun k env bx ar K=>
 match yieldOf env o with
 |some (yl',as)=>match o.guard,k,o.dst with
  |none,some k,some d=>cond (Nat.blt d n) (dC9 items yl yl' k (mapR (St.ev ⟨env,bx,ar⟩) as) (ih (some (k+1)) (upd env d (B true)) bx ar K) (ih none (upd env d (B false)) bx ar K)) False
  |_,_,_=>False
 |none=>bH0 T P .free n ops o (fun env bx ar _=>ih k env bx ar K) env bx ar (fun _=>True)
def cE1(T:Tab)(P:Program)(n:Nat)(items:List (List V))(yl:Nat)(ops l:List Oper):ItO:=
 List.rec (motive:=fun _=>ItO) (fun k env bx ar K=>K k ⟨env,bx,ar⟩) (fun o _ ih=>cV6 T P n items yl ops o ih) l
structure eF8(x y:ItC)(k:Option Nat)(σ:St)(Q:ItQ):Prop where
 out:x k σ fun e k' σ'=>match e with
  | .normal=>y k' σ' Q
  |e=>Q e k' σ'
structure bX4(T:Tab)(x:ItC)(k:Option Nat)(σ:St)(Q:ItQ):Prop where
 out:∃(A:Type) (st:A->St) (kk:A->Option Nat) (inv:A->Prop) (m:A->Nat),(∃p,Le T σ (st p)/\inv p/\kk p=k)/\∀p,inv p->x (kk p) (st p) fun e k' σ'=>match e with
  | .normal=>∃p',Le T σ' (st p')/\inv p'/\kk p'=k'/\m p'<m p
  |e=>Q e k' σ'
def aI3(T:Tab)(P:Program)(n:Nat)(items:List (List V))(yl:Nat)(c:Code):ItC:=
 Code.rec (motive:=fun _=>ItC)
  (fun k σ Q=>Q .normal k σ)
  (fun _ ops draw k σ Q=>match σ with|⟨env,bx,ar⟩=>match draw with
   |true=>aC9 T env ops.toList (fun hv=>aY0 T P (.drawn hv) n ops.toList ops.toList env bx ar (Q .normal k))
   |false=>cE1 T P n items yl ops.toList ops.toList k env bx ar (Q .normal))
  (fun _ _ iha ihb=>eF8 iha ihb)
  (fun c _ _ iht ihe k σ Q=>match σ.ev c with
   | .lit (.bool b)=>branch b (iht k σ Q) (ihe k σ Q)
   |_=>False)
  (fun id _ ih k σ Q=>ih k σ fun e k' σ'=>match e with
   | .exit i=>cond (Nat.beq i id) (Q .normal k' σ') (Q (.exit i) k' σ')
   |e=>Q e k' σ')
  (fun _ ih=>bX4 T ih)
  (fun _ _ _ _ _ _ _ _ _=>False)
  (fun id k σ Q=>Q (.exit id) k σ)
  (fun _ ih k σ Q=>ih k σ fun e k' σ'=>match e with
   | .goto _=>False
   |e=>Q e k' σ')
  (fun _ k σ Q=>Q .normal k σ)
  (fun _ _ _ _=>False)
  (fun k σ Q=>Q .ret k σ)
  (fun _ _ _ _=>False) c
def dZ2(n:Nat)(k:Option Nat):Prop:=match k with|some k=>k=n|none=>True
def itVC(T:Tab)(P:Program)(fn:Func)(caps:List V)(items:List (List V)):Prop:=
 match fn.body,fn.results.toList with
 |some c,[] =>∀l:Nat,aI3 T P fn.ntmps items l c (some 0) (uD (.lit (.func (.yield l) ⟨[]⟩ ⟨[]⟩)::caps)) fun e k _=>match e with
  | .normal=>dZ2 items.length k
  | .ret=>dZ2 items.length k
  |_=>False
 |_,_=>False
variable{T:Tab}{P:Program}{Φ:Fr}{σ:St}{a:Act}{w w':World}{G G':Gh}{o:Oper}
theorem Inv.move(inv:Inv T Φ σ a w G)(hs:w.heap.size<=w'.heap.size)(hb:∀b,G.O b≠ .ext->w'.heap[b]? =w.heap[b]?)(ho:w'.os=w.os)(ht:w'.tape=w.tape)(hu:w'.output=w.output):Inv T (Φ.at w' G) σ a w' G:=by
 have inv1:Inv T {(Φ.at w G)with given:=fun b=>G.O b≠ .fz} σ a w G:=by
  have i:=inv.up;refine {nd:=i.nd,kp:=i.kp,sz:=i.sz,env:=i.env,wfE:=i.wfE,box:=i.box,wfB:=i.wfB,arr:=i.arr,wfA:=i.wfA,tag:=i.tag,mineB:=fun b j h=> .inr (by show G.O b≠ .fz;rw[h];simp),mineA:=fun b k h=> .inr (by show G.O b≠ .fz;rw[h];simp),fzm:=fun b h=> .inl h,F0:=i.F0,frame:=fun b _ _=>rfl,size:=i.size,os:=i.os,tape:=i.tape,output:=i.output,args:=i.args,lay:=⟨i.lay.1,fun b hb=>⟨(i.lay.2 b hb).1,fun h=>h hb⟩⟩,argb:=i.argb}
 have inv2:=inv1.change (w':=w') (G':=G) rfl ⟨fun _ h=>h,fun b h=>hb b F7⟩ (fun _ _=>rfl) (fun _ _ _=>rfl) (fun _ h=>h) (fun _ _ h=>h)
  (fun i cs hi=> .inl ⟨hi,(inv1.box i cs hi).choose_spec.choose_spec.2.2,hb _ (by rw[(inv1.box i cs hi).choose_spec.choose_spec.2.2];simp)⟩)
  (fun k en hk=> .inl ⟨hk,fun b hbk=>⟨hbk,hb b (by rw[hbk];simp)⟩⟩)
  (fun b h=>Nat.lt_of_lt_of_le (inv1.tag b h) hs) (fun _=> .inl rfl)
  (fun b=>by
   by_cases h:G.O b= .fz
   ·exact .inl (hb b F7)
   ·exact .inr (.inr h)) hs ho ht hu
 exact inv2.up
structure pU(T:Tab)(n:Nat)(w:World)(JX:Option Nat->World->Gh->Prop)(k:Option Nat)(σ:St)(a:Act)(W:World)(Φ:Fr)(G' Gi:Gh):Prop where
 nn:Φ.n=n
 ds:Φ.ds=[]
 kp:Φ.keep=fun _=>none
 jx:JX k Φ.w0 G'
 tag:∀b,G'.O b≠ .ext->b<Φ.w0.heap.size
 F0:∀b,Φ.F0 b->G'.O b= .fz\/(w.heap.size<=b/\G'.O b= .ext)
 given:∀b,Φ.given b->w.heap.size<=b/\G'.O b= .ext
 size:w.heap.size<=Φ.w0.heap.size
 inv:Inv T Φ σ a W Gi
section
variable{n:Nat}{JX:Option Nat->World->Gh->Prop}{k:Option Nat}{Gi:Gh}{w0 W:World}
theorem pU.own(h:pU T n w0 JX k σ a W Φ G' Gi){b:Nat}(hb:Gi.O b≠ .ext):(Gi.O b= .fz/\G'.O b= .fz)\/(w0.heap.size<=b/\b<W.heap.size/\G'.O b= .ext):=by
 have hm:Φ.mine b->w0.heap.size<=b/\G'.O b= .ext:=fun hm=>by
  rcases hm with hm|hm
  ·refine⟨Nat.le_trans h.size hm,?_⟩
   cases hO:G'.O b with
   |ext=>rfl
   |_=>have:=h.tag b FO;omega
  ·exact h.given b hm
 have hlt:=h.inv.tag b hb
 cases hO:Gi.O b with
 |ext=>exact absurd hO hb
 |bx i=>
  obtain⟨q1,q2⟩:=hm (h.inv.mineB b i hO);exact .inr ⟨q1,hlt,q2⟩
 |ar i=>
  obtain⟨q1,q2⟩:=hm (h.inv.mineA b i hO);exact .inr ⟨q1,hlt,q2⟩
 |fz=>
  rcases h.inv.fzm b hO with h1|h1
  ·rcases h.F0 b h1 with h2|h2
   ·exact .inl ⟨rfl,h2⟩
   ·exact .inr ⟨h2.1,hlt,h2.2⟩
  ·obtain⟨q1,q2⟩:=hm h1
   exact .inr ⟨q1,hlt,q2⟩
def Jcl(w:World)(JX:Option Nat->World->Gh->Prop):Prop:=∀k W W' G',JX k W G'->W.heap.size<=W'.heap.size->(∀b,b<W.heap.size->(G'.O b≠ .ext\/b<w.heap.size)->W'.heap[b]? =W.heap[b]?)->W'.os=W.os->W'.tape=W.tape->W'.output=W.output->JX k W' G'
def Jfz(w:World)(JX:Option Nat->World->Gh->Prop):Prop:=∀k W G' G'',JX (some k) W G'->G''.β=G'.β->G''.av=G'.av->(∀b,G''.O b=G'.O b\/(w.heap.size<=b/\b<W.heap.size/\G'.O b= .ext/\G''.O b= .fz))->JX (some k) W G''
def dA0(P:Program)(w:World)(items:List (List V))(l:Nat)(JX:Option Nat->World->Gh->Prop):Prop:=∀k W G' vs it,JX (some k) W G'->items[k]? =some it->vs.size=it.length->(∀(j:Nat) v y,vs[j]? =some v->it[j]? =some y->y.pure/\Rv W G' v y)->
 YieldAt (FW none) 0 P l vs W fun e W'=>(e= .returned (.bool true)/\∃G2,JX (some (k+1)) W' G2/\xN w W W' G' G2)\/(e= .returned (.bool false)/\∃G2,JX none W' G2/\xN w W W' G' G2)
theorem pU.now(h:pU T n w0 JX k σ a W Φ G' Gi)(hJ:Jcl w0 JX):JX k W G':=
 hJ k _ _ _ h.jx h.inv.size (fun b hb hor=>h.inv.frame b hb (fun hg=>by
  obtain⟨q1,q2⟩:=h.given b hg;rcases hor with hor|hor
  ·exact hor q2
  ·omega)) h.inv.os h.inv.tape h.inv.output
theorem pU.next(h:pU T n w0 JX k σ a W Φ G' Gi){σ':St}{a':Act}{W':World}{Gi':Gh}(inv:Inv T Φ σ' a' W' Gi'):pU T n w0 JX k σ' a' W' Φ G' Gi':={h with inv:=inv}
theorem cS1{t l:Nat}{as:List Operand}{ts:Array TypeId}{fn:FuncId}{tmps:Array Value}{as' body:Code}(ho:o.op= .call ⟨.value (.tmp t),⟨as⟩,ts⟩)(ht:a.tmps.getD t undef= .func (.yield l) #[] #[])
 (hy:(Instr.yield l (as.map a.eval).toArray).run P w= .ok (.round l fn tmps as' body) w):(execOp a.eval o).run P w= .ok (.round l fn tmps as' body) w:=by
 have ht':a.eval (.tmp t)= .func (.yield l) #[] #[] :=ht;simp[execOp,ho,resolve,ht',Deferred.ofValue,invoke,hy]
theorem eH0(hJ:Jcl w0 JX)(hF:Jfz w0 JX){items:List (List V)}{l:Nat}(hY:dA0 P w0 items l JX){kk d t:Nat}{as:List Operand}{ts:Array TypeId}(ho:o.op= .call ⟨.value (.tmp t),⟨as⟩,ts⟩)(hd:o.dst=some d)(hdn:d<n)(hg:σ.env t= .lit (.func (.yield l) ⟨[]⟩ ⟨[]⟩))
 (h:pU T n w0 JX (some kk) σ a W Φ G' Gi)(hit:items[kk]? =some (as.map σ.ev))(hp:bM (as.map σ.ev)){next:Act->World->Prop}{Q:Exit->Act->World->Prop}
 (hn:∀(b:Bool) a' W' Φ' G2,pU T n w0 JX (match b with|true=>some (kk+1)|false=>none) (σ.set d (B b)) a' W' Φ' G2 Gi->next a' W'):o.wpIn (FW none) 0 P a W next Q:=by
 have htv:a.tmps.getD t undef= .func (.yield l) #[] #[] :=by
  have:=h.inv.env t;rw[hg]at this;exact this.bH
 let G2:Gh:={G' with O:=fun b=>match G'.O b,Gi.O b with| .ext, .fz=> .fz|x,_=>x}
 have hO2:∀b,G2.O b=G'.O b\/(w0.heap.size<=b/\b<W.heap.size/\G'.O b= .ext/\G2.O b= .fz):=fun b=>by
  cases hO:G'.O b with
  |ext=>
   cases hOi:Gi.O b with
   |fz=>
    rcases h.own (b:=b) (by rw[hOi];simp)with q|q
    ·rw[q.2]at hO;cases hO
    ·exact .inr ⟨q.1,q.2.1,rfl,by simp[G2,hO,hOi]⟩
   |_=>exact .inl (by simp[G2,hO,hOi])
  |_=>exact .inl (by simp[G2,hO])
 have hfz:∀b,Gi.O b= .fz->G2.O b= .fz:=fun b hb=>by
  rcases h.own (b:=b) Au with q|q
  ·simp[G2,q.2]
  ·simp[G2,q.2.2,hb]
 have hj:=hF kk W G' G2 (h.now hJ) rfl rfl hO2
 obtain⟨fn,tmps,as',body,hy,hR⟩:=hY kk W G2 (as.map a.eval).toArray _ hj hit Ae (fun j v y hv hy=>by
  have hjl:j<as.length:=by
   have:=(List.getElem?_eq_some_iff.1 hy).1;simpa using this
  have e1:v=a.eval as[j] :=by simpa [hjl]using hv.symm
  have e2:y=σ.ev as[j] :=by simpa [hjl]using hy.symm
  have hpy:y.pure:=aH.1 hp y (List.mem_of_getElem? hy);refine⟨hpy,?_⟩;rw[e1];rw[e2]at hpy⊢;exact(h.inv.ev as[j]).1.aW ⟨hfz,fun _ _=>rfl⟩ hpy)
 refine⟨fun _ _=>trivial,?_⟩;rw[Oper.semAt_eq _ _ _ (fun c=>by rw[ho];exact fun h=>by cases h),cS1 ho htv hy,Oper.uponIn_round]
 refine⟨fun hh=>Eb,hR.mono ?_⟩
 have fin:∀(b:Bool) (W':World) (G3:Gh),JX (match b with|true=>some (kk+1)|false=>none) W' G3->xN w0 W W' G2 G3->next (a.put o.dst (.bool b)) W':=by
  intro b W' G3 hx ik
  have hsame:∀b,Gi.O b≠ .ext->W'.heap[b]? =W.heap[b]? :=fun b hb=>by
   by_cases hfb:Gi.O b= .fz
   ·exact ik.keep.heap b (hfz b hfb)
   ·rcases h.own hb with q|q
    ·exact absurd q.1 hfb
    ·refine(ik.own b q.1 q.2.1 ?_).1
     cases hOi:Gi.O b with
     |fz=>exact absurd hOi hfb
     |_=>simp[G2,q.2.2,hOi]
  have inv1:=h.inv.move ik.size hsame ik.os ik.tape ik.output;have inv2:=inv1.bA3 (d:=d) (v':= .bool b) (v:=B b) ⟨by show d<Φ.n;rw[h.nn];exact hdn,by show Φ.keep d=none;rw[h.kp]⟩ (.lit _ rfl) (by simp only[B,V.ok])
  rw[hd];refine hn b _ W' (Φ.at W' Gi) G3 ⟨h.nn,h.ds,h.kp,hx,ik.tag,fun b hb=>?_,fun b hb=>?_,Nat.le_trans h.size (Nat.le_trans h.inv.size ik.size),inv2⟩
  ·exact .inl (ik.keep.fz b (hfz b hb))
  ·rcases h.own hb.2 with q|q
   ·exact absurd q.1 hb.1
   ·refine⟨q.1,(ik.own b q.1 q.2.1 ?_).2⟩
    have hbf:Gi.O b≠ .fz:=hb.1
    cases hOi:Gi.O b with
    |fz=>exact absurd hOi hbf
    |_=>simp[G2,q.2.2,hOi]
 rintro e W' (⟨rfl,G3,hx,ik⟩|⟨rfl,G3,hx,ik⟩)
 ·exact fin true W' G3 hx ik
 ·exact fin false W' G3 hx ik
def eE2(T:Tab)(n:Nat)(w0:World)(JX:Option Nat->World->Gh->Prop)(Q:ItQ)(e:Exit)(a:Act)(w:World):Prop:=∃k σ Φ G' Gi,Q e k σ/\pU T n w0 JX k σ a w Φ G' Gi
theorem eS2(hT:bP T P)(hJ:Jcl w0 JX)(hF:Jfz w0 JX){items:List (List V)}{l:Nat}(hY:dA0 P w0 items l JX){ops:List Oper}{opsA:Array Oper}(hA:opsA.toList=ops){K:Option Nat->St->Prop}{Q:Exit->Act->World->Prop}(hQ:∀k σ' a' w' Φ G' Gi,K k σ'->pU T n w0 JX k σ' a' w' Φ G' Gi->Q .normal a' w'):
 ∀(r:List Oper) (k:Option Nat) (σ:St) (a:Act) (W:World) (Φ:Fr) (G' Gi:Gh),pU T n w0 JX k σ a W Φ G' Gi->cE1 T P n items l ops r k σ.env σ.bx σ.ar K->wpListIn (FW none) 0 P opsA Q r a W:=by
 intro r
 induction r with
 |nil=>intro k σ a W Φ G' Gi h hk;exact hQ k σ a W Φ G' Gi hk h
 |cons o r ih=>
  intro k σ a W Φ G' Gi h hk;have hk':cV6 T P n items l ops o (cE1 T P n items l ops r) k σ.env σ.bx σ.ar K:=hk;unfold cV6 at hk';split at hk'
  ·rename_i yl' as hy
   split at hk'
   ·rename_i kk d hg hd
    obtain⟨hdn,hk2⟩:=aT hk';obtain⟨q0,q1,q2,q3,q4⟩:=hk2.out;subst q0;rw[dU]at q1 q2;unfold yieldOf at hy;split at hy
    ·rename_i t as' ts ho
     split at hy
     ·rename_i hv
      cases hy;unfold wpListIn;rw[if_pos BM];refine eH0 hJ hF hY ho hd (blt hdn) hv h q1 q2 ?_;intro b a' W' Φ' G2 h'
      cases b with
      |true=>exact ih _ (σ.set d (B true)) a' W' Φ' G2 Gi h' q3
      |false=>exact ih _ (σ.set d (B false)) a' W' Φ' G2 Gi h' q4
     ·cases hy
    ·cases hy
   ·exact hk'.elim
  ·have hst:=aX6 (σ:=σ) hk'
   have hkp:∀d,o.dst=some d->Φ.keep d=none:=fun d _=>by rw[h.kp]
   have hst':Step T P .free Φ.n ops o σ fun σ'=>cE1 T P n items l ops r k σ'.env σ'.bx σ'.ar K:=by rw[h.nn];exact hst
   have:=bZ3 hT h.inv hA hkp hst' (Q:=Q) none;unfold wpListIn;split
   ·rename_i hw
    rw[if_pos hw]at this;exact Oper.wpIn_mono (fun a' w' ⟨σ',G2,hk,inv'⟩=>ih k σ' a' w' Φ G' G2 (h.next inv') hk) this
   ·rename_i hw
    rw[if_neg hw]at this;obtain⟨G2,σ',hk,inv'⟩:=this;exact⟨fun _ _=>trivial,ih k σ' _ W Φ G' G2 (h.next inv') hk⟩
theorem eQ3(hT:bP T P)(hm:P.follows .mixedOrders=true)(hJ:Jcl w0 JX)(hF:Jfz w0 JX){items:List (List V)}{l:Nat}(hY:dA0 P w0 items l JX)(c:Code):∀(k:Option Nat) (σ:St) (a:Act) (W:World) (Φ:Fr) (G' Gi:Gh) (Q:ItQ),pU T n w0 JX k σ a W Φ G' Gi->aI3 T P n items l c k σ Q->c.wpIn (FW none) 0 P (eE2 T n w0 JX Q) a W:=by
 induction c with
 |skip=>intro k σ a W Φ G' Gi Q h hq;exact wpIn_skip ⟨k,σ,Φ,G',Gi,hq,h⟩
 |region id ops draw=>
  intro k σ a W Φ G' Gi Q h hq
  cases draw with
  |false=>
   have h':cE1 T P n items l ops.toList ops.toList k σ.env σ.bx σ.ar (Q .normal):=by cases σ;exact hq
   exact wpIn_region_list (eS2 hT hJ hF hY rfl (fun k σ' a' w' Φ G' Gi hk hi=>⟨k,σ',Φ,G',Gi,hk,hi⟩) ops.toList k σ a W Φ G' Gi h h')
  |true=>
   have h':aC9 T σ.env ops.toList (fun hv=>aY0 T P (.drawn hv) n ops.toList ops.toList σ.env σ.bx σ.ar (Q .normal k)):=by cases σ;exact hq
   replace h':=h'.out;obtain⟨cl,hv,h0,h1,h2⟩:=h';have hr:=aS6 ops.toList σ h2;rw[<-h.nn]at hr;exact bC4 hT none hm rfl (fun o _ d _=>by rw[h.kp]) h1 (dC3 h.inv.wfE h0) (fun σ' a' w' G2 hk inv'=>⟨k,σ',Φ,G',G2,hk,h.next inv'⟩) id h.inv hr
 |seq x y ihx ihy=>
  intro k σ a W Φ G' Gi Q h hq;have h':eF8 (aI3 T P n items l x) (aI3 T P n items l y) k σ Q:=hq;refine wpIn_seq (wpIn_mono (ihx k σ a W Φ G' Gi _ h h'.out) ?_);rintro e a' w' ⟨k',σ',Φ',G2,G3,hq',hi⟩
  cases e with
  |normal=>exact ihy k' σ' a' w' Φ' G2 G3 Q hi hq'
  |_=>exact⟨k',σ',Φ',G2,G3,hq',hi⟩
 |cond c x y ihx ihy=>
  intro k σ a W Φ G' Gi Q h hq
  have h':(match σ.ev c with
   | .lit (.bool b)=>branch b (aI3 T P n items l x k σ Q) (aI3 T P n items l y k σ Q)
   |_=>False):=hq
  have he:=(h.inv.ev c).1;split at h'
  ·rename_i b hb
   rw[hb]at he
   cases b with
   |true=>exact wpIn_cond_true he.bH (ihx k σ a W Φ G' Gi Q h h')
   |false=>exact wpIn_cond_false he.bH (ihy k σ a W Φ G' Gi Q h h')
  ·exact h'.elim
 |block id c ih=>
  intro k σ a W Φ G' Gi Q h hq;refine wpIn_block (wpIn_mono (ih k σ a W Φ G' Gi _ h hq) ?_);rintro e a' w' ⟨k',σ',Φ',G2,G3,hq',hi⟩
  cases e with
  |exit i=>
   have hq2:cond (Nat.beq i id) (Q .normal k' σ') (Q (.exit i) k' σ'):=hq';show Exit.inBlock id (eE2 T n w0 JX Q) (.exit i) a' w';by_cases hi':i=id
   ·subst hi'
    have hb:Nat.beq i i=true:=Nat.beq_refl i;rw[hb]at hq2;simp only[Exit.inBlock,if_true];exact⟨k',σ',Φ',G2,G3,hq2,hi⟩
   ·have hb:Nat.beq i id=false:=by rw[<-Bool.not_eq_true,Nat.beq_eq];exact hi'
    rw[hb]at hq2;simp only[Exit.inBlock,if_neg hi'];exact⟨k',σ',Φ',G2,G3,hq2,hi⟩
  |_=>exact⟨k',σ',Φ',G2,G3,hq',hi⟩
 |loop c ih=>
  intro k σ a W Φ G' Gi Q h hq;have h':bX4 T (aI3 T P n items l c) k σ Q:=hq;obtain⟨A,st,kk,inv,m,⟨p0,hle0,hi0,hk0⟩,hround⟩:=h'.out
  have weak:∀ {k:Option Nat} {σ1 σ2:St} {a:Act} {W:World} {Φ:Fr} {G' Gi:Gh},Le T σ1 σ2->pU T n w0 JX k σ1 a W Φ G' Gi->∃Φ Gi,pU T n w0 JX k σ2 a W Φ G' Gi:=by
   intro k σ1 σ2 a W Φ G' Gi hle h;obtain⟨G2,inv2⟩:=hle.out h.inv.up;have hown:=fun b=>h.own (b:=b);refine⟨Φ.at W Gi,G2,?_⟩
   exact⟨h.nn,h.ds,h.kp,h.now hJ,fun b hb=>Nat.lt_of_lt_of_le (h.tag b hb) h.inv.size,fun b hb=>by
    rcases hown b (by rw[show Gi.O b= .fz from hb];simp)with q|q
    ·exact .inl q.2
    ·exact .inr ⟨q.1,q.2.2⟩,fun b hb=>by
    rcases hown b hb.2 with q|q
    ·exact absurd q.1 hb.1
    ·exact⟨q.1,q.2.2⟩,Nat.le_trans h.size h.inv.size,inv2⟩
  obtain⟨Φ0,G0,h0⟩:=weak hle0 h;subst hk0;refine wpIn_loop_ghost (fun n' a w=>∃p Φ G' Gi,m p=n'/\inv p/\pU T n w0 JX (kk p) (st p) a w Φ G' Gi) (m p0) ⟨p0,Φ0,G',G0,rfl,hi0,h0⟩ ?_;rintro n' a' w' ⟨p,Φ1,G1,G2,rfl,hi,h1⟩;refine wpIn_mono (ih (kk p) (st p) a' w' Φ1 G1 G2 _ h1 (hround p hi)) ?_;rintro e a2 w2 ⟨k',σ',Φ',G3,G4,hq',hi'⟩
  cases e with
  |normal=>
   obtain⟨p',hle,hp',hkk,hlt⟩:=hq';subst hkk;obtain⟨Φ5,G5,h5⟩:=weak hle hi';exact⟨m p',hlt,p',Φ5,G3,G5,rfl,hp',h5⟩
  |_=>exact⟨k',σ',Φ',G3,G4,hq',hi'⟩
 |rangeFunc f ps x y ihx ihy=>intro k σ a W Φ G' Gi Q h hq;exact(hq:False).elim
 |exit id=>intro k σ a W Φ G' Gi Q h hq;exact wpIn_exit ⟨k,σ,Φ,G',Gi,hq,h⟩
 |scope c ih=>
  intro k σ a W Φ G' Gi Q h hq;refine bE2 (wpIn_mono (ih k σ a W Φ G' Gi _ h hq) ?_);rintro e a' w' ⟨k',σ',Φ',G2,G3,hq',hi⟩
  cases e with
  |goto l=>exact hq'.elim
  |_=>exact⟨k',σ',Φ',G2,G3,hq',hi⟩
 |label l=>intro k σ a W Φ G' Gi Q h hq;exact wpIn_label ⟨k,σ,Φ,G',Gi,hq,h⟩
 |goto l=>intro k σ a W Φ G' Gi Q h hq;exact(hq:False).elim
 |ret=>intro k σ a W Φ G' Gi Q h hq;exact wpIn_ret ⟨k,σ,Φ,G',Gi,hq,h⟩
 |refuse s=>intro k σ a W Φ G' Gi Q h hq;exact(hq:False).elim
end
theorem dZ5(hT:bP T P)(hm:P.follows .mixedOrders=true){f:FuncId}{fn:Func}(hf:P.funcs[f]? =some fn)(hc:callable P f=true){caps:List V}{items:List (List V)}(hn:caps.length+1<=fn.ntmps)(hl:allR (fun y=> !linear y) caps=true)(h:itVC T P fn caps items):aB0 T P f caps items:=by
 refine⟨hc,fun w G lb l hlb htag hcaps hlay J X hJ hX hJf hY h0=>?_⟩;unfold itVC at h;split at h
 ·rename_i c hb hres
  have h:=h l
  let JX:Option Nat->World->Gh->Prop:=fun k W G=>match k with|some k=>J k W G|none=>X W G
  have hcl:Jcl w JX:=fun k W W' G'=>by
   cases k with
   |some k=>exact hJ k W W' G'
   |none=>exact hX W W' G'
  let Gi:Gh:={G with O:=fun b=>match G.O b with| .fz=> .fz|_=> .ext}
  have hfz:∀b,Gi.O b= .fz↔G.O b= .fz:=fun b=>by
   show(match G.O b with| .fz=>Tag.fz|_=> .ext)= .fz↔_
   cases G.O b<;>simp
  have hkp:Keep w w G Gi:=⟨fun b hb=>(hfz b).2 hb,fun _ _=>rfl⟩;have hlay':T.lay w (fun b=>Gi.O b= .fz):=T.lay_mono (fun b hb=>⟨(hfz b).2 hb,rfl⟩) hlay
  let Φ:Fr:=⟨w,fun _=>False,fun b=>Gi.O b= .fz,fn.ntmps,fun _=>none,fun _=>none,[],fun _=>none⟩
  have hsz:(#[Value.func (.yield l) #[] #[]] ++lb).size=caps.length+1:=by simp[hlb];omega
  have hlin:∀(j:Nat) y,caps[j]? =some y->linear y=false:=fun j y hy=>by
   have:=dY.1 hl y (List.mem_of_getElem? hy);simpa using this
  have hin:∀(s:Nat) y,(V.lit (Value.func (.yield l) ⟨[]⟩ ⟨[]⟩)::caps)[s]? =some y->linear y=false/\y.pure/\Rv w Gi ((#[Value.func (.yield l) #[] #[]] ++lb).getD s undef) y:=by
   intro s y hy
   cases s with
   |zero=>
    simp at hy;subst hy;refine⟨rfl,by simp only[V.pure,V.ok],?_⟩
    have e:(#[Value.func (.yield l) #[] #[]] ++lb).getD 0 undef=Value.func (.yield l) #[] #[] :=by
     rw[Array.getD_eq_getD_getElem?,Array.getElem?_append_left Ae];rfl
    rw[e];exact .lit _ rfl
   |succ s=>
    have hy':caps[s]? =some y:=CJ;have hs:s<lb.size:=by rw[hlb];exact(List.getElem?_eq_some_iff.1 hy').1
    obtain⟨q1,q2⟩:=hcaps s lb[s] y (by simp[hs]) hy'
    refine⟨hlin s y hy',q1,?_⟩
    have e:(#[Value.func (.yield l) #[] #[]] ++lb).getD (s+1) undef=lb[s] :=by
     rw[Array.getD_eq_getD_getElem?,Array.getElem?_append_right Ae];simp[hs]
    rw[e];exact q2.aW hkp q1
  have henv:∀s,(uD (V.lit (Value.func (.yield l) ⟨[]⟩ ⟨[]⟩)::caps)).env s=match(V.lit (Value.func (.yield l) ⟨[]⟩ ⟨[]⟩)::caps)[s]? with|some y=>y|none=> .tup [] :=fun s=>by
   have e0:(uD (V.lit (Value.func (.yield l) ⟨[]⟩ ⟨[]⟩)::caps)).env=pF (V.lit (Value.func (.yield l) ⟨[]⟩ ⟨[]⟩)::caps) 0:=rfl;rw[e0,lY];simp only[Nat.zero_le,if_true,Nat.sub_zero]
   cases hy:(V.lit (Value.func (.yield l) ⟨[]⟩ ⟨[]⟩)::caps)[s]? with
   |none=>rfl
   |some y=>simp[(hin s y hy).1]
  have har:∀k,(uD (V.lit (Value.func (.yield l) ⟨[]⟩ ⟨[]⟩)::caps)).ar k=none:=fun k=>by
   have e0:(uD (V.lit (Value.func (.yield l) ⟨[]⟩ ⟨[]⟩)::caps)).ar=jK (V.lit (Value.func (.yield l) ⟨[]⟩ ⟨[]⟩)::caps) 0:=rfl;rw[e0,gY];simp only[Nat.zero_le,if_true,Nat.sub_zero]
   cases hy:(V.lit (Value.func (.yield l) ⟨[]⟩ ⟨[]⟩)::caps)[k]? with
   |none=>rfl
   |some y=>
    have:=(hin k y hy).1;cases y<;>simp_all [linear]
  have inv:Inv T Φ (uD (V.lit (Value.func (.yield l) ⟨[]⟩ ⟨[]⟩)::caps)) {tmps:=(#[Value.func (.yield l) #[] #[]] ++lb)++Array.replicate (fn.ntmps- (#[Value.func (.yield l) #[] #[]] ++lb).size) undef,defers:=[]} w Gi:=by
   constructor
   ·rfl
   ·intro s v hs;cases hs
   ·show((#[Value.func (.yield l) #[] #[]] ++lb)++Array.replicate (fn.ntmps- (#[Value.func (.yield l) #[] #[]] ++lb).size) undef).size=fn.ntmps
    rw[Array.size_append,Array.size_replicate,hsz];omega
   ·intro s
    rw[henv s];by_cases hs:s< (#[Value.func (.yield l) #[] #[]] ++lb).size
    ·have hv:((#[Value.func (.yield l) #[] #[]] ++lb)++Array.replicate (fn.ntmps- (#[Value.func (.yield l) #[] #[]] ++lb).size) undef).getD s undef=(#[Value.func (.yield l) #[] #[]] ++lb).getD s undef:=by
      rw[Array.getD_eq_getD_getElem?,Array.getD_eq_getD_getElem?,Array.getElem?_append_left hs]
     have hy:(V.lit (Value.func (.yield l) ⟨[]⟩ ⟨[]⟩)::caps)[s]? =some (V.lit (Value.func (.yield l) ⟨[]⟩ ⟨[]⟩)::caps)[s] :=List.getElem?_eq_getElem (by rw[hsz]at hs;simpa using hs)
     show Rv w Gi (((#[Value.func (.yield l) #[] #[]] ++lb)++Array.replicate (fn.ntmps- (#[Value.func (.yield l) #[] #[]] ++lb).size) undef).getD s undef) _;rw[hv,hy];exact(hin s _ hy).2.2
    ·have hy:(V.lit (Value.func (.yield l) ⟨[]⟩ ⟨[]⟩)::caps)[s]? =none:=List.getElem?_eq_none (by rw[hsz]at hs;simp;omega)
     rw[hy]
     have hv:((#[Value.func (.yield l) #[] #[]] ++lb)++Array.replicate (fn.ntmps- (#[Value.func (.yield l) #[] #[]] ++lb).size) undef).getD s undef=undef:=by
      rw[Array.getD_eq_getD_getElem?,Array.getElem?_append_right Aa];by_cases h2:s- (#[Value.func (.yield l) #[] #[]] ++lb).size<fn.ntmps- (#[Value.func (.yield l) #[] #[]] ++lb).size
      ·rw[Array.getElem?_replicate,if_pos h2];rfl
      ·rw[Array.getElem?_eq_none (by rw[Array.size_replicate];omega)];rfl
     show Rv w Gi (((#[Value.func (.yield l) #[] #[]] ++lb)++Array.replicate (fn.ntmps- (#[Value.func (.yield l) #[] #[]] ++lb).size) undef).getD s undef) _;rw[hv];exact xK w Gi
   ·intro s
    rw[henv s]
    cases hy:(V.lit (Value.func (.yield l) ⟨[]⟩ ⟨[]⟩)::caps)[s]? with
    |none=>simp only[V.ok,V.okL]
    |some y=>exact V.pure.ok (hin s y hy).2.1 _ _
   ·intro i cs' hi
    exact LV
   ·intro i cs' hi
    exact LV
   ·intro k en hen;rw[har k]at hen;cases hen
   ·intro k en hen;rw[har k]at hen;cases hen
   ·intro b hb
    refine htag b ?_;intro he;have:Gi.O b= .ext:=by show(match G.O b with| .fz=>Tag.fz|_=> .ext)=_;rw[he]
    exact hb this
   ·intro b i hb
    exact NQ
   ·intro b k hb
    exact NQ
   ·intro b hb;exact .inl hb
   ·intro b hb;exact hb
   ·intro b _ _;rfl
   ·exact Nat.le_refl _
   ·rfl
   ·rfl
   ·rfl
   ·intro j v h;cases h
   ·exact⟨hlay',fun b hb=>⟨htag b (by rw[(hfz b).1 hb];simp),fun h=>h⟩⟩
   ·intro i b h;cases h
  have hi:pU T fn.ntmps w JX (some 0) (uD (V.lit (Value.func (.yield l) ⟨[]⟩ ⟨[]⟩)::caps)) {tmps:=(#[Value.func (.yield l) #[] #[]] ++lb)++Array.replicate (fn.ntmps- (#[Value.func (.yield l) #[] #[]] ++lb).size) undef,defers:=[]} w Φ G Gi:=
   ⟨rfl,rfl,rfl,h0,htag,fun b hb=> .inl ((hfz b).1 hb),fun b hb=>hb.elim,Nat.le_refl _,inv⟩
  refine callsIn_of_wp (F:=FW none) hf hb trivial (wpIn_mono (eQ3 hT hm hcl hJf hY c _ _ _ w Φ G Gi _ hi h) ?_)
  have fin:∀(k:Option Nat) (σ:St) (a':Act) (w':World) (Φ:Fr) (G' Gi:Gh),dZ2 items.length k->pU T fn.ntmps w JX k σ a' w' Φ G' Gi->a'.defers=[]/\∃v,(results fn a'.tmps).run P w'= .ok v w'/\((∃v',Ending.returned v= .returned v')/\((∃G',J items.length w' G')\/∃G',X w' G')):=by
   intro k σ a' w' Φ G' Gi hk hi;have hnow:=hi.now hcl;refine⟨by rw[hi.inv.nd,hi.ds], .tuple #[],?_,⟨_,rfl⟩,?_⟩
   ·have hr:fn.results= #[] :=by
     have:=congrArg List.toArray hres;simpa using this
    simp[results,hr]
   ·cases k with
    |none=>exact .inr ⟨G',hnow⟩
    |some k=>
     have:k=items.length:=hk;subst this;exact .inl ⟨G',hnow⟩
  rintro e a' w' ⟨k,σ,Φ',G',Gi',hq,hi'⟩
  cases e with
  |normal=>exact fin k σ a' w' Φ' G' Gi' hq hi'
  |ret=>exact fin k σ a' w' Φ' G' Gi' hq hi'
  |exit id=>exact(hq:False).elim
  |goto l=>exact(hq:False).elim
  |panic c=>exact(hq:False).elim
  |outgrown=>exact(hq:False).elim
 ·exact h.elim
theorem cD0{x y:ItC}{k:Option Nat}{Q:ItQ}(h:x k σ fun e k' σ'=>match e with
 | .normal=>y k' σ' Q
 |e=>Q e k' σ'):eF8 x y k σ Q:=⟨h⟩
theorem eD4{x:ItC}{k:Option Nat}{Q:ItQ}{A:Type}(st:A->St)(kk:A->Option Nat)(inv:A->Prop)(m:A->Nat)(p0:A)(h0:Le T σ (st p0))(h1:inv p0)(hk:kk p0=k)(h:∀p,inv p->x (kk p) (st p) fun e k' σ'=>match e with
 | .normal=>∃p',Le T σ' (st p')/\inv p'/\kk p'=k'/\m p'<m p
 |e=>Q e k' σ'):bX4 T x k σ Q:=⟨A,st,kk,inv,m,⟨p0,h0,h1,hk⟩,h⟩
theorem dE2{items:List (List V)}{l k:Nat}{xs:List V}{A B:Prop}(h1:items[k]? =some xs)(h2:bM xs)(hA:A)(hB:B):dC9 items l l k xs A B:=⟨rfl,h1,h2,hA,hB⟩
end
end Go.Ab
namespace Go.Ab
open Go.ChangeShapes Go.WideShapes Go.ChangeAt Go.RowKit
def Dec(P:Program)(w:World)(G:Gh)(t:TypeId)(Q:List V->Prop):Prop:=
 ∀(H:Type) (enc:TypeId×Value->H) (fuel:Nat) (cs:List Value) (x:DataW H×List MemPlace),DataW.trod enc P w 0 (fun _=>true) true fuel t cs=some x->
  ∃xs,Q xs/\RvL w G cs xs/\bM xs/\xs.length=P.cellsOf t/\∀y∈xs,y.atom=true
def QInt(k:IntKind)(lo hi:Int):List V->Prop:=fun xs=>∃n:Int,xs=[.lit (.int k n)]/\lo<=n/\n<=hi
def QBool:List V->Prop:=fun xs=>∃b:Bool,xs=[.lit (.bool b)]
def QTwo(Q R:List V->Prop):List V->Prop:=fun xs=>∃a b,xs=a++b/\Q a/\R b
def zI(agg:Bool)(Q:List V->Prop):List V->Prop:=fun xs=>∃l:List V,xs=[.sl l]/\l.length<=maxLen/\∀x∈l,Q x.cells/\(agg=true->∃ys,x= .agg ys)/\(agg=false->∀ys,x≠ .agg ys)
section
variable{P:Program}{w:World}{G:Gh}{t:TypeId}
theorem RvL.lit1{u:Value}(h:u.oneCell'=true):RvL w G [u] [.lit u] :=
 ⟨rfl,fun v hv=>by cases List.mem_singleton.1 hv;exact h,fun i v x hv hx=>by
  cases i with
  |zero=>simp at hv hx;subst hv hx;exact .lit _ h
  |succ i=>simp at hv⟩
theorem dI6{k:IntKind}(ht:P.underlying t=some (.int k))(hc:P.cellsOf t=1){lo hi:Int}(hk:∀n,(Lit.int k n).wf=true->lo<=n/\n<=hi):Dec P w G t (QInt k lo hi):=by
 intro H enc fuel cs x h;obtain⟨n,rfl,_,hw⟩:=DataW.trod_int ht h;refine⟨_,⟨n,rfl,hk n hw⟩,RvL.lit1 rfl,?_,Gu,fun y hy=>BL⟩;simp only[bM,V.okL,V.ok,and_self]
theorem dec_bool(ht:P.underlying t=some .bool)(hc:P.cellsOf t=1):Dec P w G t QBool:=by
 intro H enc fuel cs x h;obtain⟨n,rfl,_⟩:=DataW.trod_bool ht h;refine⟨_,⟨n,rfl⟩,RvL.lit1 rfl,?_,Gu,fun y hy=>BL⟩;simp only[bM,V.okL,V.ok,and_self]
def QStr:List V->Prop:=fun xs=>∃s:ByteArray,xs=[.lit (.string s)]/\s.size<=maxLen
theorem eO8(ht:P.underlying t=some .string)(hc:P.cellsOf t=1):Dec P w G t QStr:=by
 intro H enc fuel cs x h;obtain⟨n,rfl,_,hs⟩:=DataW.trod_string ht h;refine⟨_,⟨n,rfl,hs⟩,RvL.lit1 rfl,?_,Gu,fun y hy=>BL⟩;simp only[bM,V.okL,V.ok,and_self]
def QAll:List (List V->Prop)->List V->Prop
 | [],xs=>xs=[]
 |Q::r,xs=>∃a b,xs=a++b/\Q a/\QAll r b
def Parts(P:Program)(w:World)(G:Gh):Nat->List (Nat×TypeId)->List (List V->Prop)->Nat->Prop
 |off,[],[],e=>off=e
 |off,f::r,Q::s,e=>f.1=off/\Dec P w G f.2 Q/\Parts P w G (off+P.cellsOf f.2) r s e
 |_,_,_,_=>False
theorem mM{off e:Nat}(h:off=e):Parts P w G off [] [] e:=h
theorem aY{off e:Nat}{f:Nat×TypeId}{r:List (Nat×TypeId)}{Q:List V->Prop}{s:List (List V->Prop)}(h1:f.1=off)(h2:Dec P w G f.2 Q)(h3:Parts P w G (off+P.cellsOf f.2) r s e):Parts P w G off (f::r) (Q::s) e:=⟨h1,h2,h3⟩
theorem cS3{p:Nat->Prop}{q:Nat->Nat->Prop}{a b:List V}(h1:V.okL p q a)(h2:V.okL p q b):V.okL p q (a++b):=by
 rw[aH]at*;intro x hx;rcases List.mem_append.1 hx with h|h
 ·exact h1 x h
 ·exact h2 x h
theorem bV7{H:Type}{enc:TypeId×Value->H}{n:Nat}{cs:List Value}:∀(fs:List (Nat×TypeId)) (Qs:List (List V->Prop)) (off e:Nat),Parts P w G off fs Qs e->
 (∀f∈fs,∃y,DataW.trod enc P w 0 (fun _=>true) true n f.2 ((cs.drop f.1).take (P.cellsOf f.2))=some y)->cs.length=e->
 ∃xs,QAll Qs xs/\RvL w G (cs.drop off) xs/\bM xs/\off+xs.length=e/\∀y∈xs,y.atom=true:=by
 intro fs
 induction fs with
 |nil=>
  intro Qs off e hp _ hl
  cases Qs with
  |nil=>
   have:off=e:=hp;refine⟨[],rfl,?_,Fg,by simpa using this,Ae⟩
   rw[List.drop_eq_nil_of_le Aa];exact⟨rfl,Ae,Ae⟩
  |cons=>exact hp.elim
 |cons f r ih=>
  intro Qs off e hp hf hl
  cases Qs with
  |nil=>exact hp.elim
  |cons Q s=>
   obtain⟨h1,h2,h3⟩:=hp;obtain⟨y,hy⟩:=hf f Ae;obtain⟨xs,q1,q2,q3,q4,q5⟩:=h2 H enc n _ y hy;obtain⟨ys,k1,k2,k3,k4,k5⟩:=ih s _ e h3 (fun g hg=>hf g (by simp[hg])) hl
   refine⟨xs++ys,⟨xs,ys,rfl,q1,k1⟩,?_,cS3 q3 k3,A8,?_⟩
   ·have:cs.drop off=(cs.drop off).take (P.cellsOf f.2)++cs.drop (off+P.cellsOf f.2):=by
     rw[<-List.drop_drop,List.take_append_drop]
    rw[this];rw[h1]at q2;exact q2.append k2
   ·intro y hy
    rcases List.mem_append.1 hy with h|h
    ·exact q5 y h
    ·exact k5 y h
theorem lZ{fs:Array Field}{Qs:List (List V->Prop)}(ht:P.underlying t=some (.struct fs))(hp:Parts P w G 0 (fs.toList.map fun f=>(f.offset,f.type)) Qs (P.cellsOf t)):Dec P w G t (QAll Qs):=by
 intro H enc fuel cs x h;obtain⟨xs,n,_,_,hl,hlen,hf⟩:=DataW.trod_struct ht h
 obtain⟨ys,k1,k2,k3,k4,k5⟩:=bV7 (enc:=enc) (n:=n) _ _ 0 _ hp (fun f hf'=>by
  obtain⟨g,hg,rfl⟩:=List.mem_map.1 hf';obtain⟨i,hi⟩:=List.getElem?_of_mem hg
  have hi':i<fs.size:=by
   have:=(List.getElem?_eq_some_iff.1 hi).1;simpa using this
  have:=hf i g Dk;rw[List.getElem?_eq_getElem Aa]at this;exact⟨_,this⟩) hl
 exact⟨ys,k1,by simpa using k2,k3,by simpa using k4,k5⟩
theorem pV{e:TypeId}{Q:List V->Prop}(agg:Bool)(ht:P.underlying t=some (.slice e))(hc:P.cellsOf t=1)(he:Dec P w G e Q)(hz:0<P.cellsOf e)(hagg:agg=false->P.cellsOf e=1)(hG:∀b,b<w.heap.size->G.O b= .fz):Dec P w G t (zI agg Q):=by
 intro H enc fuel cs x h;rcases Deep.open_slice ht h with⟨rfl,rfl⟩|⟨a,len,cap,m,n,D,Pl,rfl,hb,hl,hm,hmm,rfl,hx⟩
 ·refine⟨_,⟨[],rfl,Ae,Ae⟩,⟨rfl,fun v hv=>by cases List.mem_singleton.1 hv;rfl,fun i v x hv hx=>?_⟩,by simp only[bM,V.okL,V.ok,and_self],Gu,fun y hy=>BL⟩
  cases i with
  |zero=>simp at hv hx;subst hv hx;exact .slN
  |succ i=>simp at hv
 ·simp only[if_true]at hmm
  subst hmm
  have each:∀i,i<len->∃cs' xs,w.cells? 0 (a.add (i*P.cellsOf e)) (P.cellsOf e)=some cs'/\Q xs/\RvL w G cs' xs/\bM xs/\xs.length=P.cellsOf e/\∀y∈xs,y.atom=true:=by
   intro i hi;obtain⟨cs',h1,h2⟩:=hx i Aa;obtain⟨xs,q⟩:=he H enc n cs' _ h2;exact⟨cs',xs,h1,q⟩
  let X:Nat->List V:=fun i=>if h:i<len then(each i h).choose_spec.choose else []
  let C:Nat->List Value:=fun i=>if h:i<len then(each i h).choose else []
  have hX:∀i,i<len->w.cells? 0 (a.add (i*P.cellsOf e)) (P.cellsOf e)=some (C i)/\Q (X i)/\RvL w G (C i) (X i)/\bM (X i)/\(X i).length=P.cellsOf e/\∀y∈X i,y.atom=true:=by
   intro i hi;simp only[X,C,dif_pos hi];exact(each i hi).choose_spec.choose_spec
  let El:Nat->V:=fun i=>cond agg (.agg (X i)) ((X i).headD .bot)
  have hEl:∀i,i<len->(El i).cells=X i:=by
   intro i hi;obtain⟨_,_,_,_,h5,h6⟩:=hX i hi
   cases hagg':agg with
   |true=>simp only[El,hagg',cond_true,V.cells]
   |false=>
    have h1:=hagg hagg';rw[h1]at h5
    match hXi:X i,h5 with
    | [y],_=>
      simp only[El,hagg',cond_false,hXi,List.headD_cons];have:=h6 y (by rw[hXi];simp)
      cases y<;>first|rfl|(simp[V.atom]at this)
  let l:List V:=(List.range len).map El
  have hll:l.length=len:=by simp[l]
  have hcl:∀x∈l,x.cells.length=P.cellsOf e:=by
   intro x hx;obtain⟨i,hi,rfl⟩:=List.mem_map.1 hx;rw[hEl i (List.mem_range.1 hi)];exact(hX i (List.mem_range.1 hi)).2.2.2.2.1
  have hget:∀i,i<len->l[i]? =some (El i):=fun i hi=>by simp[l,hi]
  have hpure:bM l:=by
   refine aH.2 ?_;intro x hx;obtain⟨i,hi,rfl⟩:=List.mem_map.1 hx;have hi':=List.mem_range.1 hi;have hp:=(hX i hi').2.2.2.1
   cases hagg':agg with
   |true=>simp only[El,hagg',cond_true,V.ok];exact hp
   |false=>
    have h5:=(hX i hi').2.2.2.2.1;rw[hagg hagg']at h5
    match hXi:X i,h5 with
    | [y],_=>
      simp only[El,hagg',cond_false,hXi,List.headD_cons];rw[hXi]at hp;exact aH.1 hp y Ae
  have cellsAt:∀(j:Nat) y,(l.flatMap V.cells)[j]? =some y->∃c,w.cell? (a.add j)=some c/\c.oneCell'=true/\Rv w G c y:=by
   intro j y hy
   have hlen:j<len*P.cellsOf e:=by
    have:=(List.getElem?_eq_some_iff.1 hy).1;rw[sH hcl,hll]at this;exact this
   have hi:j/P.cellsOf e<len:=Nat.div_lt_of_lt_mul (by rw[Nat.mul_comm];exact hlen)
   have hr:j% P.cellsOf e<P.cellsOf e:=Nat.mod_lt _ hz;have hj:j/P.cellsOf e*P.cellsOf e+j% P.cellsOf e=j:=by rw[Nat.mul_comm];exact Nat.div_add_mod j _
   have hfl:=flat_get hcl (hget _ hi) (j% P.cellsOf e) hr;rw[hj,hy,hEl _ hi]at hfl;obtain⟨g1,g2,g3,g4,g5,g6⟩:=hX _ hi;obtain⟨_,c1,c2⟩:=World.cells?_some g1;have hcc:=c2 _ hr
   rw[Deep.add_add,hj]at hcc;have hlt:j% P.cellsOf e< (C (j/P.cellsOf e)).length:=by rw[c1];exact hr
   rw[List.getElem?_eq_getElem hlt]at hcc;refine⟨_,hcc,g3.one _ (List.getElem_mem hlt),g3.rel (j% P.cellsOf e) _ y GI hfl.symm⟩
  let cc:Nat->Value:=fun j=>(w.cell? (a.add j)).getD undef
  have hcc:∀(j:Nat) y,(l.flatMap V.cells)[j]? =some y->w.cell? (a.add j)=some (cc j)/\(cc j).oneCell'=true/\Rv w G (cc j) y:=by
   intro j y hy;obtain⟨c,h1,h2,h3⟩:=cellsAt j y hy;have:cc j=c:=by simp[cc,h1]
   rw[this];exact⟨h1,h2,h3⟩
  have hfz:0<l.length->G.O a.block= .fz:=by
   intro h0;rw[hll]at h0;have hne:0< (l.flatMap V.cells).length:=by rw[sH hcl,hll];exact Nat.mul_pos h0 hz
   have h1:=(hcc 0 (l.flatMap V.cells)[0] Ae).1;refine hG _ ?_;have hb':(a.add 0).block=a.block:=ER
   rcases Nat.lt_or_ge a.block w.heap.size with h|h
   ·exact h
   ·exfalso
    have:w.heap[(a.add 0).block]? =none:=by rw[hb'];exact Array.getElem?_eq_none h
    simp[World.cell?,this]at h1
  refine⟨[.sl l],⟨l,rfl,by rw[hll];omega,?_⟩,⟨rfl,fun v hv=>by cases List.mem_singleton.1 hv;rfl,fun i v x hv hx=>?_⟩,?_,Gu,fun y hy=>BL⟩
  ·intro x hx
   obtain⟨i,hi,rfl⟩:=List.mem_map.1 hx;have hi':=List.mem_range.1 hi;rw[hEl i hi'];refine⟨(hX i hi').2.1,fun ha=>⟨X i,?_⟩,fun ha ys=>?_⟩
   ·simp only[El,ha,cond_true]
   ·have h5:=(hX i hi').2.2.2.2.1
    rw[hagg ha]at h5
    match hXi:X i,h5 with
    | [y],_=>
      simp only[El,ha,cond_false,hXi,List.headD_cons];have:=(hX i hi').2.2.2.2.2 y (by rw[hXi];simp)
      intro e;rw[e]at this;simp[V.atom]at this
  ·cases i with
   |zero=>
    simp at hv hx;subst hv hx;have:=Rv.slS (w:=w) (G:=G) a m l (P.cellsOf e) cc (by rw[hll];exact hl) hm hfz hcl (fun j y hy=>⟨(hcc j y hy).1,(hcc j y hy).2.1⟩) (fun j y hy=>(hcc j y hy).2.2)
    rwa [hll]at this
   |succ i=>simp at hv
  ·simp only[bM,V.okL,V.ok,and_true]
   exact hpure
def wE(P:Program)(T:Tab)(w:World)(G:Gh)(R:List V->Prop)(ts:List TypeId):Prop:=
 ∀(H:Type) (enc:TypeId×Value->H) (vs:List Value) (ds:List (DataW H)) (ps:List MemPlace),DataW.TrodAll enc P w 0 (fun _=>true) true ts vs ds ps->
  (∀(j:Nat) t v,ts[j]? =some t->vs[j]? =some v->(aggB (P.underlying t)=true->∃cs,v= .agg cs)/\(aggB (P.underlying t)=false->∀cs,v≠ .agg cs))->
  ∃ys,R ys/\ys.length=vs.length/\∀(j j':Nat) v y,vs[j]? =some v->ys[j]? =some y->Rb T w G j' v y
theorem dF6{T:Tab}{j:Nat}{v:Value}{y:V}(hp:y.pure)(hl:linear y=false)(h:Rv w G v y):Rb T w G j v y:=by
 cases y<;>first|exact⟨hp,h⟩|(simp[linear]at hl)
def aI0(agg:Bool)(xs:List V):V:=cond agg (.agg xs) (xs.headD .bot)
theorem vW{T:Tab}:wE P T w G (fun ys=>ys=[]) [] :=by
 intro H enc vs ds ps h _;obtain⟨rfl,_,_⟩:=trodAll_nil h;exact⟨[],rfl,rfl,Ae⟩
theorem oV{T:Tab}{ts:List TypeId}{Q:List V->Prop}{R:List V->Prop}(ht:Dec P w G t Q)(hag:aggB (P.underlying t)=false->P.cellsOf t=1)(hr:wE P T w G R ts):
 wE P T w G (fun ys=>∃xs r,ys=aI0 (aggB (P.underlying t)) xs::r/\Q xs/\R r) (t::ts):=by
 intro H enc vs ds ps h hagg;obtain⟨v,vs',d,ds',p,q,rfl,rfl,rfl,h1,h2⟩:=trodAll_cons h;obtain⟨fuel,h1⟩:=h1;obtain⟨xs,k1,k2,k3,k4,k5⟩:=ht H enc fuel _ _ h1;obtain⟨r,q1,q2,q3⟩:=hr H enc vs' ds' q h2 (fun j t v ht hv=>hagg (j+1) t v (by simpa using ht) AZ)
 refine⟨_,⟨xs,r,rfl,k1,q1⟩,by simp[q2],?_⟩
 intro j j' u y hu hy
 cases j with
 |succ j=>simp at hu hy;exact q3 j j' u y hu hy
 |zero=>
  simp at hu hy;subst hu hy
  cases hb:aggB (P.underlying t)with
  |true=>
   obtain⟨cs,rfl⟩:=(hagg 0 t v Ae Ae).1 hb;have k2':RvL w G cs.toList xs:=k2;refine dF6 (by simp only[aI0,cond_true,V.ok];exact k3) rfl ?_
   exact .agg cs xs (by have:=k2'.len;simpa using this) (fun c hc=>k2'.one c BZ) (fun i c x hc hx=>k2'.rel i c x BZ hx)
  |false=>
   rw[hag hb]at k4
   match xs,k4 with
   | [x],_=>
     have hx:=k5 x Ae;have hlen:=k2.len
     have hp:x.pure:=aH.1 k3 x Ae
     have hv:Rv w G v x:=by
      cases v with
      |agg cs=>
       exact absurd rfl ((hagg 0 t _ Ae Ae).2 hb cs)
      |_=>exact k2.rel 0 _ x (by simp[Value.cells]) rfl
     refine dF6 (by simp only[aI0,cond_false,List.headD_cons];exact hp) ?_ (by simpa [aI0]using hv)
     simp only[aI0,cond_false,List.headD_cons];cases x<;>first|rfl|(simp[V.atom]at hx)
theorem cF6{r:Reach}{base:Nat}{v:Value}(h:Value.okWide P w r base t v):(aggB (P.underlying t)=true->∃cs,v= .agg cs)/\(aggB (P.underlying t)=false->∀cs,v≠ .agg cs):=by
 unfold Value.okWide at h;split at h
 ·rename_i fs hu
  exact NH
 ·rename_i n e hu
  exact NH
 ·rename_i h1 h2
  refine⟨fun ha=>?_,fun _ cs hv=>?_⟩
  ·unfold aggB at ha
   split at ha
   ·rename_i fs hu;exact(h1 fs hu).elim
   ·rename_i n e hu;exact(h2 n e hu).elim
   ·cases ha
  ·subst hv
   unfold Cell.okWide at h;split at h<;>first|(rename_i he;cases he;done)|(rename_i he _;cases he;done)|skip
   unfold Cell.ok at h;split at h<;>first|(rename_i he;cases he;done)|(rename_i he _;cases he;done)|exact h
theorem bO3{H:Type}{enc:TypeId×Value->H}{f:Func}{s:ChangeSpec}{apart fresh handsOn again:Bool}{W W':World}{args:Array Value}{v:Value}{ds gs:List (DataW H)}{before pa pv:List MemPlace}
 (hW:DataW.Whole enc P f.params.toList s.vars apart W args.toList ds gs before)
 (hres:∀(b:Nat) (sp:Nat->Bool) (hd:Bool),DataW.TrodAll enc P W' b sp hd f.resultTypes.toList (v.resultList f.resultTypes.size) (s.fn H (ds++gs)).results [])
 (hargs:∀sp:Nat->Bool,(∀p∈before,sp p.block=true)->DataW.TrodAll enc P W' 0 sp true f.params.toList args.toList (s.fn H (ds++gs)).args pa)
 (hvars:∀sp:Nat->Bool,(∀p∈before,sp p.block=true)->DataW.TrodVars enc P W' sp s.vars (s.fn H (ds++gs)).vars pv)
 (hps:before=pa++pv)(hb:Below W.heap.size W W')
 (hok:∀(j:Nat) (t:TypeId) (r:Value),f.resultTypes[j]? =some t->(v.resultList f.resultTypes.size)[j]? =some r->Value.okWide P W' .any 0 t r):
 s.post enc P f apart fresh handsOn again W args v W':=by
 have hold:∀p∈before,(fun b=>decide (b<W.heap.size)) p.block=true:=fun p hp=>by simpa using hW.lt p hp
 have hlt:∀p∈before,p.block<W.heap.size:=fun p hp=>hW.lt p hp;refine⟨ds,gs,before,[],pa,pv,hW,hres _ _ _,hargs _ hold,hvars _ hold,World.keptBut_mono (fun p hp=>⟨hp,?_⟩) (hb.frame (·∈before)),fun _=>?_⟩
 ·rw[hps,List.mem_append]at hp
  exact Or.inr hp
 ·obtain⟨_,_,_,_,_,hz,hn⟩:=hW
  refine⟨hok,_,_,([] ++pa)++pv,⟨[] ++pa,pv,trodAll_append (hargs _ (fun _ _=>rfl)) (hres _ _ _),hvars _ (fun _ _=>rfl),rfl,?_,?_⟩,?_⟩
  ·intro b off hp
   have hp':MemPlace.cell b off∈before:=by rw[hps];simpa using hp
   rw[hb.frozen (p:=⟨b,off,none⟩) (hlt _ hp')];exact hz b off hp'
  ·intro ha
   have:=hn ha;rw[hps]at this;simpa using this
  ·intro p hp _
   rw[hps];simpa using hp
theorem bN8{H:Type}{enc:TypeId×Value->H}{W W':World}(hl:laidOutB P=true)(hb:Below W.heap.size W W'){sp:Nat->Bool}:∀(ts:List TypeId) (vs:List Value) (ds:List (DataW H)) (ps:List MemPlace),
 (∀t∈ts,P.readableRec t=true/\t<P.types.size)->DataW.TrodAll enc P W 0 (fun _=>true) true ts vs ds ps->(∀p∈ps,p.block<W.heap.size/\sp p.block=true)->DataW.TrodAll enc P W' 0 sp true ts vs ds ps:=by
 intro ts
 induction ts with
 |nil=>
  intro vs ds ps _ h _;obtain⟨rfl,rfl,rfl⟩:=trodAll_nil h;exact trodAll_mk0
 |cons t r ih=>
  intro vs ds ps ht h hp;obtain⟨v,vs',d,ds',p,q,rfl,rfl,rfl,h1,h2⟩:=trodAll_cons h;refine trodAll_cons_mk ?_ (ih vs' ds' q (fun t ht'=>ht t (by simp[ht'])) h2 (fun x hx=>hp x CW))
  exact WideElems.Trod_stays hl (ht t Ae).1 (ht t Ae).2 h1 (fun x hx=>hb.same (hp x CW).1) (fun x hx=>(hp x CW).2)
def bQ(W:World):Gh:=⟨fun _=>0,fun _ _=>undef,fun b=>if b<W.heap.size then .fz else .ext⟩
theorem jZ(W:World):∀b,b<W.heap.size->(bQ W).O b= .fz:=fun b hb=>by simp[bQ,hb]
theorem tJ{T:Tab}{f:FuncId}{fn:Func}{s:ChangeSpec}{tb:TypeId}{R:List V->Prop}(hl:laidOutB P=true)(hvars:s.vars=[])(hfn:∀(H:Type) (ds:List (DataW H)),ds.length=fn.params.size->s.fn H ds={results:=[.lit (.bool true)],args:=ds})
 (hres:fn.resultTypes= #[tb])(htb:P.underlying tb=some .bool)(hts:∀t∈fn.params.toList,P.readableRec t=true/\t<P.types.size)
 (hdec:∀W:World,wE P T W (bQ W) R fn.params.toList)(hspec:∀ys,R ys->Spec T P f ys (.lit (.bool true)))
 {H:Type}{enc:TypeId×Value->H}{apart fresh handsOn again:Bool}(W:World)(base:Nat)(args:Array Value)(ds gs:List (DataW H))(before:List MemPlace)
 (hval:∀(j:Nat) t v,fn.params[j]? =some t->args[j]? =some v->Value.okWide P W .any base t v)
 (hW:DataW.Whole enc P fn.params.toList s.vars apart W args.toList ds gs before)(hlay:T.lay W (fun b=>b<W.heap.size)):
 Calls P f args W fun e W'=>∃v,e= .returned v/\s.post enc P fn apart fresh handsOn again W args v W':=by
 have hW':=hW;obtain⟨p,q,hA,hV,rfl,hfz,hnd⟩:=hW;rw[hvars]at hV;obtain⟨rfl,rfl⟩:=trodVars_none hV;obtain⟨ys,hR,hlen,hrb⟩:=hdec W H enc args.toList ds p hA (fun j t v ht hv=>cF6 (hval j t v (by simpa using ht) AZ))
 obtain⟨hcall,hs⟩:=hspec ys hR
 have hGt:∀b,(bQ W).O b≠ .ext->b<W.heap.size:=fun b hb=>by
  by_cases h:b<W.heap.size
  ·exact h
  ·simp[bQ,h]at hb
 have hGb:∀b i,(bQ W).O b≠ .bx i:=fun b i hb=>by
  by_cases h:b<W.heap.size<;>simp[bQ,h]at hb
 have hGa:∀b j,(bQ W).O b≠ .ar j:=fun b i hb=>by
  by_cases h:b<W.heap.size<;>simp[bQ,h]at hb
 refine(hs W (bQ W) args (by rw[hlen];simp) hGt hGb (fun j v y hv hy=>hrb j j v y AZ hy) (T.lay_mono (fun b hb=>⟨jZ W b hb,rfl⟩) hlay)).mono ?_
 rintro e W' ⟨v,G',rfl,hr,_,_,_,_,hheap,hsize,hos,htape,hout⟩;refine⟨v,rfl,?_⟩;have hv:v= .bool true:=hr.2.bH;subst hv;have hb:Below W.heap.size W W':=⟨hos,htape,hout,hsize,fun k hk=>hheap k hk (hGa k)⟩
 have hlt:∀x∈p,x.block<W.heap.size:=fun x hx=>hW'.lt x CW
 have hdl:ds.length=fn.params.size:=by
  have gen:∀(ts:List TypeId) (vs:List Value) (ds:List (DataW H)) (ps:List MemPlace),DataW.TrodAll enc P W 0 (fun _=>true) true ts vs ds ps->ds.length=ts.length:=by
   intro ts
   induction ts with
   |nil=>intro vs ds ps h;obtain⟨_,rfl,_⟩:=trodAll_nil h;rfl
   |cons t r ih=>
    intro vs ds ps h;obtain⟨v,vs',d,ds',p,q,rfl,rfl,rfl,h1,h2⟩:=trodAll_cons h;simp[ih vs' ds' q h2]
  have:=gen _ _ _ _ hA;simpa using this
 have hfn':=hfn H ds hdl;refine bO3 (pa:=p) (pv:=[]) hW' ?_ ?_ ?_ rfl hb ?_
 ·intro b sp hd
  rw[List.append_nil,hfn',hres];exact trodAll_cons_mk (shut_bool htb true) trodAll_mk0
 ·intro sp hsp
  rw[List.append_nil,hfn'];exact bN8 hl hb _ _ _ _ hts hA (fun x hx=>⟨hlt x hx,hsp x CW⟩)
 ·intro sp _
  rw[List.append_nil,hfn',hvars];rfl
 ·exact ok_one hres rfl (okWide_bool_mk htb true)
end
end Go.Ab
