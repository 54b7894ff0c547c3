/-
  From one state to a weaker one: what a loop or a cut keeps.
-/
import Derived.Test.YtkhhdojgbkophaaGreatDoorBA12
import Derived.KernelRfl
set_option linter.unusedVariables false
set_option linter.unusedSimpArgs false
noncomputable section
namespace Go.Ab
def dU6(u' u:Value):Prop:=
 match u with
 | .int k n=>match u' with| .int k' n'=>k'=k/\n'=n|_=>False
 | .bool b=>match u' with| .bool b'=>b'=b|_=>False
 |u=>u'=u
def wk1(ar r:Nat->Option AE)(x y:V):Prop:=
 match y with
 | .bot=>True
 | .lit u=>match x with| .lit u'=>dU6 u' u|_=>False
 | .sl l=>match x with
   | .sl l'=>l'=l
   | .cap l'=>l'=l
   | .lit (.slice none 0 0)=>l=[]
   | .arr k g=>match ar k with
     |some en=>match en.kind with
      | .frz=>en.gen=g/\en.l=l
      |_=>False
     |none=>False
   |_=>False
 | .arr k g=>match x with
   | .arr k' g'=>k'=k/\g'=g
   | .lit (.slice none 0 0)=>match ar k with
     |none=>match r k with
      |some en=>en.gen=g
      |none=>False
     |some _=>False
   |_=>False
 | .box i o=>match x with| .box i' o'=>i'=i/\o'=o|_=>False
 | .cap l=>match x with| .cap l'=>l'=l| .lit (.slice none 0 0)=>l=[] |_=>False
 | .fp l=>match x with| .fp l'=>l'=l|_=>False
 | .fn g l=>match x with| .fn g' l'=>g'=g/\l'=l|_=>False
 | .ae k g z i o=>match x with| .ae k' g' z' i' o'=>k'=k/\g'=g/\z'=z/\i'=i/\o'=o|_=>False
 |_=>False
def wkL(ar r:Nat->Option AE)(ys:List V):List V->Prop:=
 List.rec (motive:=fun _=>List V->Prop) (fun xs=>match xs with| [] =>True|_::_=>False)
  (fun y _ ih xs=>match xs with|x::xr=>wk1 ar r x y/\ih xr| [] =>False) ys
def wkV(ar r:Nat->Option AE)(x y:V):Prop:=
 match y with
 | .agg ys=>match x with| .agg xs=>wkL ar r ys xs|_=>False
 |y=>wk1 ar r x y
def bX7(a b:AK):Prop:=
 match b with
 | .own=>match a with| .own=>True|_=>False
 | .ap=>match a with| .own=>True| .ap=>True|_=>False
 | .frz=>match a with| .frz=>True|_=>False
 | .dead=>match a with| .dead=>True|_=>False
def wkAE(T:Tab)(o:Option AE)(en:AE):Prop:=
 match o with
 |some en0=>en0.gen=en.gen/\bX7 en0.kind en.kind/\en0.ty=en.ty/\en0.l=en.l
 |none=>bX7 .own en.kind/\en.l=[]/\Nat.blt en.ty (T.n en.ty)=true
def wfC1(b:Nat->Option (List V))(x:V):Prop:=
 match x with
 | .box i _=>match b i with|some _=>True|none=>False
 | .fp _=>True
 | .lit _=>True
 |_=>False
def wfC(b:Nat->Option (List V))(l:List V):Prop:=List.rec (motive:=fun _=>Prop) True (fun x _ ih=>wfC1 b x/\ih) l
def wf1(b:Nat->Option (List V))(r:Nat->Option AE)(x:V):Prop:=
 match x with
 | .box i _=>match b i with|some _=>True|none=>False
 | .arr k g=>match r k with|some en=>g<=en.gen|none=>False
 | .ae k g _ _ _=>match r k with|some en=>g<=en.gen|none=>False
 | .fn _ l=>wfC b l
 |_=>True
def wfL(b:Nat->Option (List V))(r:Nat->Option AE)(l:List V):Prop:=List.rec (motive:=fun _=>Prop) True (fun x _ ih=>wf1 b r x/\ih) l
def wfV(b:Nat->Option (List V))(r:Nat->Option AE)(x:V):Prop:=
 match x with
 | .agg cs=>wfL b r cs
 |x=>wf1 b r x
def wkE(σ:St)(b:Nat->Option (List V))(r:Nat->Option AE)(e:List (Nat×V)):Prop:=
 List.rec (motive:=fun _=>Prop) True (fun p _ ih=>(wkV σ.ar r (σ.env p.1) p.2/\wfV b r p.2)/\ih) e
def wkB(σ:St)(b:Nat->Option (List V))(r:Nat->Option AE)(l:List (Nat×List V)):Prop:=
 List.rec (motive:=fun _=>Prop) True (fun p _ ih=>(match σ.bx p.1 with|some cs=>wkL σ.ar r p.2 cs/\wfL b r p.2|none=>False)/\ih) l
def wkA(T:Tab)(σ:St)(l:List (Nat×AE)):Prop:=
 List.rec (motive:=fun _=>Prop) True (fun p _ ih=>wkAE T (σ.ar p.1) p.2/\ih) l
theorem eJ6{u' u:Value}(h:dU6 u' u):u'=u:=by
 unfold dU6 at h;split at h
 ·split at h
  ·obtain⟨rfl,rfl⟩:=h;rfl
  ·exact h.elim
 ·split at h
  ·subst h;rfl
  ·exact h.elim
 ·exact h
section
variable{T:Tab}{Φ:Fr}{σ:St}{a:Act}{w:World}{G:Gh}{b:Nat->Option (List V)}{r:Nat->Option AE}
def xI(σ:St)(G:Gh):Gh:={G with av:=fun k g=>match σ.ar k with|none=> .slice none 0 0|some _=>G.av k g}
theorem bD1(σ:St)(w:World)(G:Gh):Keep w w G (xI σ G):=⟨fun _ h=>h,fun _ _=>rfl⟩
theorem eB6{k g:Nat}(h:σ.hasA k g):(xI σ G).av k g=G.av k g:=by
 obtain⟨en,h,_⟩:=h;simp[xI,h]
theorem eX8{τ:St}{p:Nat->Prop}{q:Nat->Nat->Prop}{l:List V}:wfC τ.bx l->V.okL p q l->V.okL τ.hasB τ.hasA l:=by
 induction l with
 |nil=>intro _ _;simp only[V.okL]
 |cons x r ih=>
  intro h hok;obtain⟨h1,h2⟩:wfC1 τ.bx x/\wfC τ.bx r:=h;simp only[V.okL]at hok⊢;refine⟨?_,ih h2 hok.2⟩;have hx:=hok.1;unfold wfC1 at h1;split at h1
  ·split at h1
   ·rename_i cs hcs;simp only[V.ok];exact⟨cs,hcs⟩
   ·exact h1.elim
  ·simp only[V.ok]at hx⊢;exact hx
  ·simp only[V.ok]
  ·exact h1.elim
theorem aG3(inv:Inv T Φ σ a w G){v:Value}{x y:V}(hx:Rv w G v x)(hok:x.ok σ.hasB σ.hasA)(h:wk1 σ.ar r x y)(hw:wf1 b r y)(τ:St)(hb:τ.bx=b)(hr:τ.ar=r):
 Rv w (xI σ G) v y/\y.ok τ.hasB τ.hasA:=by
 have hx':Rv w (xI σ G) v x:=hx.keep (bD1 σ w G) hok (fun _ _=>rfl) (fun k g h=>eB6 h);subst hb hr;unfold wk1 at h;split at h
 ·exact⟨.bot v,Bh⟩
 ·split at h
  ·cases eJ6 h;exact⟨hx',Bh⟩
  ·exact h.elim
 ·split at h
  ·subst h;exact⟨hx',CS⟩
  ·subst h;exact⟨hx'.wK,CS⟩
  ·subst h
   have:=hx.bH;subst this;exact⟨.slN,DK⟩
  ·split at h
   ·rename_i k g _ en hen
    split at h
    ·rename_i hkd
     obtain⟨rfl,rfl⟩:=h;have ha:=inv.arr k en hen;unfold gW at ha;rw[hkd]at ha;have hp:=inv.wfA k en hen
     have hps:(V.sl en.l).pure:=Ap;have hv:=hx.oQ
     rw[hv];exact⟨(ha:Rv w G _ _).aW (bD1 σ w G) hps,by simp only[V.ok];exact hp⟩
    ·exact h.elim
   ·exact h.elim
  ·exact h.elim
 ·rename_i k g
  have hwr:τ.hasA k g:=KW;split at h
  ·obtain⟨rfl,rfl⟩:=h
   exact⟨hx',FK⟩
  ·split at h
   ·rename_i hnone
    split at h
    ·have hv:=hx.bH
     subst hv;have e:(xI σ G).av k g= .slice none 0 0:=by simp[xI,hnone]
     rw[<-e];exact⟨.arr k g (by rw[e];rfl),FK⟩
    ·exact h.elim
   ·exact h.elim
  ·exact h.elim
 ·split at h
  ·obtain⟨rfl,rfl⟩:=h
   refine⟨hx',?_⟩;unfold wf1 at hw;simp only at hw;split at hw
   ·rename_i cs hcs;simp only[V.ok];exact⟨cs,hcs⟩
   ·exact hw.elim
  ·exact h.elim
 ·split at h
  ·subst h;exact⟨hx',CS⟩
  ·subst h
   have:=hx.bH;subst this;exact⟨.capN,DK⟩
  ·exact h.elim
 ·split at h
  ·subst h;exact⟨hx',CS⟩
  ·exact h.elim
 ·split at h
  ·obtain⟨rfl,rfl⟩:=h
   refine⟨hx',?_⟩;simp only[V.ok]at hok⊢;exact eX8 (τ:=τ) hw hok
  ·exact h.elim
 ·rename_i k g z i o
  have hwr:τ.hasA k g:=KW;split at h
  ·obtain⟨rfl,rfl,rfl,rfl,rfl⟩:=h
   exact⟨hx',FK⟩
  ·exact h.elim
 ·exact h.elim
theorem bL3{ar:Nat->Option AE}{ys:List V}:∀ {xs:List V},wkL ar r ys xs->wfL b r ys->xs.length=ys.length/\∀(i:Nat) x y,xs[i]? =some x->ys[i]? =some y->wk1 ar r x y/\wf1 b r y:=by
 induction ys with
 |nil=>
  intro xs h _
  cases xs with
  |nil=>exact⟨rfl,fun i x y hx=>Ic⟩
  |cons x xr=>exact(h:False).elim
 |cons y yr ih=>
  intro xs h hw
  cases xs with
  |nil=>exact(h:False).elim
  |cons x xr=>
   obtain⟨h1,h2⟩:=(h:wk1 ar r x y/\wkL ar r yr xr);obtain⟨w1,w2⟩:=(hw:wf1 b r y/\wfL b r yr);obtain⟨q1,q2⟩:=ih h2 w2;refine⟨by simp[q1],fun i x' y' hx hy=>?_⟩
   cases i with
   |zero=>simp at hx hy;subst hx hy;exact⟨h1,w1⟩
   |succ i=>simp at hx hy;exact q2 i x' y' hx hy
theorem bT8(inv:Inv T Φ σ a w G){v:Value}{x y:V}(hx:Rv w G v x)(hok:x.ok σ.hasB σ.hasA)(h:wkV σ.ar r x y)(hw:wfV b r y)(τ:St)(hb:τ.bx=b)(hr:τ.ar=r):
 Rv w (xI σ G) v y/\y.ok τ.hasB τ.hasA:=by
 unfold wkV at h;split at h
 ·rename_i ys
  split at h
  ·rename_i xs
   obtain⟨q1,q2⟩:=bL3 h hw;obtain⟨cs,rfl,hl,ho,hrel⟩:=hx.zV;simp only[V.ok]at hok
   have each:∀(i:Nat) c y,cs[i]? =some c->ys[i]? =some y->Rv w (xI σ G) c y/\y.ok τ.hasB τ.hasA:=by
    intro i c y hc hy;have hi:i<xs.length:=EC;have hxi:xs[i]? =some xs[i] :=F5
    obtain⟨k1,k2⟩:=q2 i xs[i] y hxi hy;exact aG3 inv (hrel i c xs[i] hc hxi) (aH.1 hok _ (List.getElem_mem hi)) k1 k2 τ hb hr
   refine⟨.agg cs ys Aa ho fun i c y hc hy=>(each i c y hc hy).1,?_⟩;simp only[V.ok];rw[aH];intro y hy;obtain⟨i,hi⟩:=List.getElem?_of_mem hy;have hlt:i<cs.size:=by rw[hl,q1];exact(List.getElem?_eq_some_iff.1 hi).1
   exact(each i cs[i] y Ij hi).2
  ·exact h.elim
 ·rename_i hna
  refine aG3 inv hx hok h ?_ τ hb hr;unfold wfV at hw;split at hw
  ·exact(hna _ rfl).elim
  ·exact hw
theorem dT6{α:Type}{dflt:α}{l:List (Nat×α)}(s:Nat):ofL dflt l s=dflt\/∃p∈l,p.1=s/\ofL dflt l s=p.2:=by
 induction l with
 |nil=>exact .inl rfl
 |cons p q ih=>
  have hd:ofL dflt (p::q) s=cond (Nat.beq s p.1) p.2 (ofL dflt q s):=rfl;rw[hd]
  cases hb:Nat.beq s p.1 with
  |true=>exact .inr ⟨p,Ae,(Nat.eq_of_beq_eq_true hb).symm,rfl⟩
  |false=>
   rcases ih with h|⟨p',hp,h1,h2⟩
   ·exact .inl h
   ·exact .inr ⟨p',by simp[hp],h1,h2⟩
theorem aF5{α:Type}{l:List (Nat×α)}{s:Nat}{x:α}(h:ofO l s=some x):∃p∈l,p.1=s/\p.2=x:=by
 induction l with
 |nil=>cases h
 |cons p q ih=>
  have hd:ofO (p::q) s=cond (Nat.beq s p.1) (some p.2) (ofO q s):=rfl;rw[hd]at h
  cases hb:Nat.beq s p.1 with
  |true=>rw[hb]at h;exact⟨p,Ae,(Nat.eq_of_beq_eq_true hb).symm,DT⟩
  |false=>
   rw[hb]at h;obtain⟨p',hp,h1,h2⟩:=ih h;exact⟨p',by simp[hp],h1,h2⟩
theorem cP0{e:List (Nat×V)}(h:wkE σ b r e):∀p∈e,wkV σ.ar r (σ.env p.1) p.2/\wfV b r p.2:=by
 induction e with
 |nil=>intro p hp;cases hp
 |cons q l ih=>
  obtain⟨h1,h2⟩:=(h:(wkV σ.ar r (σ.env q.1) q.2/\wfV b r q.2)/\wkE σ b r l);intro p hp;exact OT
theorem cF4{l:List (Nat×List V)}(h:wkB σ b r l):∀p∈l,∃cs,σ.bx p.1=some cs/\wkL σ.ar r p.2 cs/\wfL b r p.2:=by
 induction l with
 |nil=>intro p hp;cases hp
 |cons q l ih=>
  obtain⟨h1,h2⟩:=(h:(match σ.bx q.1 with|some cs=>wkL σ.ar r q.2 cs/\wfL b r q.2|none=>False)/\wkB σ b r l)
  intro p hp;rcases List.mem_cons.1 hp with rfl|hp
  ·split at h1
   ·rename_i cs hcs;exact⟨cs,hcs,h1⟩
   ·exact h1.elim
  ·exact ih h2 p hp
theorem cO0{l:List (Nat×AE)}(h:wkA T σ l):∀p∈l,wkAE T (σ.ar p.1) p.2:=by
 induction l with
 |nil=>intro p hp;cases hp
 |cons q l ih=>
  obtain⟨h1,h2⟩:=(h:wkAE T (σ.ar q.1) q.2/\wkA T σ l);intro p hp;exact OT
theorem cR3(inv:Inv T Φ σ a w G){k:Nat}{en0 en:AE}(h0:σ.ar k=some en0)(h1:en0.gen=en.gen)(h2:bX7 en0.kind en.kind)(h3:en0.ty=en.ty)(h4:en0.l=en.l):gW T w G k en:=by
 have ha:=inv.arr k en0 h0;obtain⟨g0,k0,t0,l0⟩:=en0;obtain⟨g,kd,t,l⟩:=en;simp only at h1 h2 h3 h4;subst h1 h3 h4;cases kd<;>cases k0<;>simp only[bX7]at h2<;>first|exact h2.elim|exact trivial|exact ha|skip
 unfold gW at ha⊢;exact⟨ha.1, .inl ha.2⟩
def has8(o p:Option AE):Prop:=match o with|none=>True|some _=>(match p with|some _=>True|none=>False)
def aN5(o p:Option (List V)):Prop:=match o with|none=>True|some _=>(match p with|some _=>True|none=>False)
def wk8b(ar r:Nat->Option (List V)):Prop:=aN5 (ar 100000) (r 100000)/\aN5 (ar 100001) (r 100001)/\aN5 (ar 100002) (r 100002)/\aN5 (ar 100003) (r 100003)/\aN5 (ar 100004) (r 100004)/\aN5 (ar 100005) (r 100005)/\aN5 (ar 100006) (r 100006)/\aN5 (ar 100007) (r 100007)
theorem dS5{ar r:Nat->Option (List V)}(h:wk8b ar r){j:Nat}(hj:100000<=j/\j<100008){en:List V}(he:ar j=some en):∃en',r j=some en':=by
 have key:∀ {o p:Option (List V)},aN5 o p->o=some en->∃en',p=some en':=by
  intro o p h ho;exact OE
 obtain⟨h0,h1,h2,h3,h4,h5,h6,h7⟩:=h;have hj':j=100000\/j=100001\/j=100002\/j=100003\/j=100004\/j=100005\/j=100006\/j=100007:=Aa;rcases hj' with rfl|rfl|rfl|rfl|rfl|rfl|rfl|rfl
 ·exact key h0 he
 ·exact key h1 he
 ·exact key h2 he
 ·exact key h3 he
 ·exact key h4 he
 ·exact key h5 he
 ·exact key h6 he
 ·exact key h7 he
def wk8(ar r:Nat->Option AE):Prop:=has8 (ar 0) (r 0)/\has8 (ar 1) (r 1)/\has8 (ar 2) (r 2)/\has8 (ar 3) (r 3)/\has8 (ar 4) (r 4)/\has8 (ar 5) (r 5)/\has8 (ar 6) (r 6)/\has8 (ar 7) (r 7)
theorem dT9{ar r:Nat->Option AE}(h:wk8 ar r){j:Nat}(hj:j<8){en:AE}(he:ar j=some en):∃en',r j=some en':=by
 have key:∀ {o p:Option AE},has8 o p->o=some en->∃en',p=some en':=by
  intro o p h ho;exact OE
 obtain⟨h0,h1,h2,h3,h4,h5,h6,h7⟩:=h
 match j,hj with
 |0,_=>exact key h0 he
 |1,_=>exact key h1 he
 |2,_=>exact key h2 he
 |3,_=>exact key h3 he
 |4,_=>exact key h4 he
 |5,_=>exact key h5 he
 |6,_=>exact key h6 he
 |7,_=>exact key h7 he
theorem dV{e:List (Nat×V)}{lb:List (Nat×List V)}{lr:List (Nat×AE)}(h8:wk8 σ.ar (ofO lr)/\wk8b σ.bx (ofO lb))(hA:wkA T σ lr)(hB:wkB σ (ofO lb) (ofO lr) lb)(hE:wkE σ (ofO lb) (ofO lr) e):Le T σ (mkSt e lb lr):=by
 unfold Le;intro Φ a w G inv;have bot:∀s,(mkSt e lb lr).env s= .bot\/∃p∈e,p.1=s/\(mkSt e lb lr).env s=p.2:=fun s=>dT6 s;have hav:∀k g,σ.hasA k g->(xI σ G).av k g=G.av k g:=fun k g h=>eB6 h
 refine⟨xI σ G,?_⟩;refine {nd:=inv.nd,kp:=inv.kp,sz:=inv.sz,env:= ?_,wfE:= ?_,box:= ?_,wfB:= ?_,arr:= ?_,wfA:= ?_,tag:=inv.tag,mineB:=inv.mineB,mineA:=inv.mineA,fzm:=inv.fzm,F0:=inv.F0,lay:=inv.lay,frame:=inv.frame,size:=inv.size,os:=inv.os,tape:=inv.tape,output:=inv.output,args:=fun j v h=>⟨(hav j 0 ⟨_,(inv.args j v h).2.2.choose_spec,Nat.zero_le _⟩).trans (inv.args j v h).1,(inv.args j v h).2.1,dT9 h8.1 (inv.args j v h).2.1 (inv.args j v h).2.2.choose_spec⟩,argb:=fun i bk h=>⟨(inv.argb i bk h).1,(inv.argb i bk h).2.1,dS5 h8.2 (inv.argb i bk h).2.1 (inv.argb i bk h).2.2.choose_spec⟩}
 ·intro s
  rcases bot s with h|⟨p,hp,rfl,h⟩
  ·rw[h];exact .bot _
  ·rw[h]
   obtain⟨h1,h2⟩:=cP0 hE p hp;exact(bT8 inv (inv.env p.1) (inv.wfE p.1) h1 h2 (mkSt e lb lr) rfl rfl).1
 ·intro s
  rcases bot s with h|⟨p,hp,rfl,h⟩
  ·rw[h];simp only[V.ok]
  ·rw[h]
   obtain⟨h1,h2⟩:=cP0 hE p hp;exact(bT8 inv (inv.env p.1) (inv.wfE p.1) h1 h2 (mkSt e lb lr) rfl rfl).2
 ·intro i cs hi
  obtain⟨p,hp,rfl,rfl⟩:=aF5 hi;obtain⟨cs0,hcs0,h1,h2⟩:=cF4 hB p hp;obtain⟨c,t,g1,g2,g3⟩:=inv.box p.1 cs0 hcs0;obtain⟨q1,q2⟩:=bL3 h1 h2;refine⟨c,t,g1,⟨by rw[g2.len,q1],g2.one,fun i v y hv hy=>?_⟩,g3⟩
  have hlt:i<cs0.length:=EC;have hxi:cs0[i]? =some cs0[i] :=Ij
  obtain⟨k1,k2⟩:=q2 i cs0[i] y hxi hy;exact(aG3 inv (g2.rel i v cs0[i] hv hxi) (aH.1 (inv.wfB p.1 cs0 hcs0) _ (List.getElem_mem hlt)) k1 k2 (mkSt e lb lr) rfl rfl).1
 ·intro i cs hi
  obtain⟨p,hp,rfl,rfl⟩:=aF5 hi;obtain⟨cs0,hcs0,h1,h2⟩:=cF4 hB p hp;obtain⟨c,t,g1,g2,g3⟩:=inv.box p.1 cs0 hcs0;obtain⟨q1,q2⟩:=bL3 h1 h2;rw[aH];intro y hy;obtain⟨i,hi'⟩:=List.getElem?_of_mem hy;have hlt:i<cs0.length:=by rw[q1];exact(List.getElem?_eq_some_iff.1 hi').1
  have hxi:cs0[i]? =some cs0[i] :=Ij;have hlc:i<c.toList.length:=by rw[g2.len];exact hlt
  obtain⟨k1,k2⟩:=q2 i cs0[i] y hxi hi';exact(aG3 inv (g2.rel i c.toList[i] cs0[i] Ae hxi) (aH.1 (inv.wfB p.1 cs0 hcs0) _ (List.getElem_mem hlt)) k1 k2 (mkSt e lb lr) rfl rfl).2
 ·intro k en hk
  obtain⟨p,hp,rfl,rfl⟩:=aF5 hk;have h:=cO0 hA p hp;unfold wkAE at h;split at h
  ·rename_i en0 h0
   have hok:=cR3 inv h0 h.1 h.2.1 h.2.2.1 h.2.2.2;refine hok.keep (bD1 σ w G) ?_ ?_ (fun b hb=>⟨hb,rfl⟩)
   ·rw[<-h.2.2.2];exact inv.wfA _ _ h0
   ·exact hav _ _ ⟨en0,h0,Aa⟩
  ·rename_i h0
   obtain⟨h1,h2,h3⟩:=h;have hnil:(xI σ G).av p.1 p.2.gen= .slice none 0 0:=by simp[xI,h0]
   have hlt:=blt h3;unfold gW;split
   ·rw[h2];trivial
   ·rename_i hkd;rw[hkd]at h1;exact h1.elim
   ·rw[hnil,h2];exact⟨hlt, .inl ⟨.inl rfl,rfl⟩⟩
   ·rw[hnil,h2];exact⟨hlt, .inl (.inl ⟨.inl rfl,rfl⟩)⟩
 ·intro k en hk
  obtain⟨p,hp,rfl,rfl⟩:=aF5 hk;have h:=cO0 hA p hp;unfold wkAE at h;split at h
  ·rename_i en0 h0
   rw[<-h.2.2.2];exact inv.wfA _ _ h0
  ·rw[h.2.1];simp only[V.okL]
end
section
variable{T:Tab}{P:Program}{σ:St}
theorem eY7{x y:aA2}{Q:Exit->St->Prop}(h:x σ fun e σ'=>match e with
 | .normal=>y σ' Q
 |e=>Q e σ'):dG2 T x y σ Q:=by refine⟨?_⟩;exact .inl h
theorem dJ4{x y:aA2}{Q:Exit->St->Prop}(A:Type)(st:A->St)(inv:A->Prop)(h:x σ fun e σ'=>match e with
 | .normal=>∃p,Le T σ' (st p)/\inv p
 |e=>Q e σ')(h2:∀p,inv p->y (st p) Q):dG2 T x y σ Q:=by refine⟨?_⟩;exact .inr ⟨⟨A,st,inv,fun _=>0⟩,h,h2⟩
theorem lD{x:aA2}{Q:Exit->St->Prop}{A:Type}(st:A->St)(inv:A->Prop)(m:A->Nat)(p0:A)(h0:Le T σ (st p0))(h1:inv p0)(h:∀p,inv p->x (st p) fun e σ'=>match e with
 | .normal=>∃p',Le T σ' (st p')/\inv p'/\m p'<m p
 |e=>Q e σ'):bI0 T x σ Q:=by refine⟨?_⟩;exact⟨⟨A,st,inv,m⟩,⟨p0,h0,h1⟩,h⟩
theorem jU{b:Bool}{A B:Prop}(h1:b=true->A)(h2:b=false->B):branch b A B:=by
 cases b
 ·exact h2 rfl
 ·exact h1 rfl
theorem xE{b:Bool}{A B:Prop}(h:b=true)(h1:A):branch b A B:=by subst h;exact h1
theorem branch_f{b:Bool}{A B:Prop}(h:b=false)(h1:B):branch b A B:=by subst h;exact h1
theorem dC8{a b:Int}:ltB a b=true↔a<b:=by unfold ltB;simp
theorem eU6{a b:Int}:ltB a b=false↔b<=a:=by unfold ltB;simp
theorem bV6{a b:Int}:leB a b=true↔a<=b:=by unfold leB;simp
theorem eU7{a b:Int}:leB a b=false↔b<a:=by unfold leB;simp
theorem aA1{a b:Int}:eqB a b=true↔a=b:=by unfold eqB;simp
theorem dY0{a b:Int}:eqB a b=false↔a≠b:=by unfold eqB;simp
theorem eQ7(a b:Bool):andB a b=(a&&b):=by unfold andB;rfl
theorem br_lt{a b:Int}{A B:Prop}(h1:a<b->A)(h2:b<=a->B):branch (ltB a b) A B:=jU (fun h=>h1 (dC8.1 h)) (fun h=>h2 (eU6.1 h))
theorem br_le{a b:Int}{A B:Prop}(h1:a<=b->A)(h2:b<a->B):branch (leB a b) A B:=jU (fun h=>h1 (bV6.1 h)) (fun h=>h2 (eU7.1 h))
theorem eV7{a b:Int}{A B:Prop}(h1:a=b->A)(h2:a≠b->B):branch (eqB a b) A B:=jU (fun h=>h1 (aA1.1 h)) (fun h=>h2 (dY0.1 h))
theorem eZ2{b:Bool}{A B:Prop}(h:branch b B A):branch (!b) A B:=by cases b<;>exact h
theorem mG(a b:Int):maxI a b=max a b:=by unfold maxI;split<;>omega
theorem lH(a b:Int):minI a b=min a b:=by unfold minI;split<;>omega
theorem eH4{n:Int}{K:Int->Prop}(h: -9223372036854775808<=n/\n<=9223372036854775807)(hk:K n):arith .i64 n K:=by
 refine⟨?_⟩;rw[show IntKind.wrap .i64 n=n from IntWalk.i64_in _ Aa];exact hk
theorem fU{p K:Prop}(h:p)(hk:K):need p K:=by refine⟨?_⟩;exact⟨h,hk⟩
theorem eQ9{α:Type}{f:α->V}{l:List α}{i:Nat}{K:V->Prop}(hi:i<l.length)(h:∀x,l[i]? =some x->K (f x)):idx (l.map f) i K:=by
 refine⟨?_⟩;exact⟨f l[i],F5,h _ F5⟩
theorem dE3{l:List V}{i:Nat}{K:V->Prop}(x:V)(h:l[i]? =some x)(hk:K x):idx l i K:=by refine⟨?_⟩;exact⟨x,h,hk⟩
theorem eZ1{T:Tab}{env:Nat->V}{ops:List Oper}{K:List (Nat×List Nat)->Prop}(h:cP6 T ops=true)(hk:K []):aC9 T env ops K:=by refine⟨?_⟩;exact⟨[],[],trivial,h,hk⟩
theorem cC0{T:Tab}{env:Nat->V}{ops:List Oper}{K:List (Nat×List Nat)->Prop}(cl:List (Nat×Nat))(h0:cO4 cl env)(h:oO T cl [] ops=true)(hk:K []):aC9 T env ops K:=by refine⟨?_⟩;exact⟨cl,[],h0,h,hk⟩
theorem bW8{T:Tab}{env:Nat->V}{ops:List Oper}{K:List (Nat×List Nat)->Prop}(cl:List (Nat×Nat))(hv:List (Nat×List Nat))(h0:cO4 cl env)(h:oO T cl hv ops=true)(hk:K hv):aC9 T env ops K:=by refine⟨?_⟩;exact⟨cl,hv,h0,h,hk⟩
theorem aS5{light:Md}{d:Nat}{f:FuncId}{xs ys:List V}{r:V}{K:VK}(hs:Spec T P f ys r)(lend:Bool)(hg:iQ T σ.ar ys xs)(hc:sO light.light lend xs ys r=true)
 (hk:zZ σ d (reuse σ (bD ys xs)) r fun v ms=>K v (appR (cond lend [] (aV σ (bK ys xs))) (appR (aX σ (bD ys xs)) ms))):kY T P light σ d f xs K:=by
 refine⟨.inl ?_⟩;exact⟨ys,r,lend,hg,hc,hs,hk⟩
theorem aQ2{d:Nat}{f:FuncId}{xs ys:List V}{r:V}{K:VK}{j k g:Nat}{e:TypeId}{l l':List V}(hs:bE5 T P f ys r j e l')(hy:ys[j]? =some (.own e l))(hx:xs[j]? =some (.arr k g))(hg:iQ T σ.ar ys xs)(hc:sO false false xs ys r=true)(hf:aH7 r=true)
 (hk:K r (appR (aV σ (bK ys xs)) (appR (aX σ (bD ys xs)) [.a k ⟨g, .own,e,l'⟩]))):kY T P .free σ d f xs K:=by
 refine⟨.inr (.inl ⟨rfl,ys,r,j,k,g,e,l,l',hg,hc,hs,hy,hx,hf,hk⟩)⟩
theorem fC9{light:Md}{d:Nat}{f:FuncId}{xs ys:List V}{bs bs':List (List V)}{r:V}{K:VK}(hs:aU2 T P f ys bs r bs')(is:List Nat)(hm:light.may d is ((xs,ys)::eU σ.bx bs is)=true)(hg:xM T σ.ar is ((xs,ys)::eU σ.bx bs is))(hc:zA σ.bx ((xs,ys)::eU σ.bx bs is) is bs r=true)
 (hk:aX2 σ.bx σ.ar is (ownG ((xs,ys)::eU σ.bx bs is)) d r bs' fun v ms=>K v (appR (aV σ (mF ((xs,ys)::eU σ.bx bs is))) (appR (aX σ (ownG ((xs,ys)::eU σ.bx bs is))) ms))):kY T P light σ d f xs K:=by
 refine⟨.inr (.inr ⟨ys,is,bs,r,bs',hm,hg,hc,hs,hk⟩)⟩
theorem fA7{rs:List ResultVar}{r:V}{bs:List (List V)}(h:aH3 T σ rs fun xs=>match xs with
 | [x] =>xM T σ.ar (iP bs 0) (([x],[r])::eU σ.bx bs (iP bs 0))/\aT2 σ.bx (([x],[r])::eU σ.bx bs (iP bs 0)) (iP bs 0)=true/\(∀rs,r≠ .tup rs)
 |xs=>∃ys,r= .tup ys/\xM T σ.ar (iP bs 0) ((xs,ys)::eU σ.bx bs (iP bs 0))/\aT2 σ.bx ((xs,ys)::eU σ.bx bs (iP bs 0)) (iP bs 0)=true):retB T σ rs r bs:=⟨h⟩
theorem cA7{rs:List ResultVar}{r:V}{j:Nat}{e:TypeId}{l:List V}(h:aH3 T σ rs fun xs=>match xs with
 | [x] =>iQ T σ.ar [r, .own e l] [x, .arr j 0]/\iR [x, .arr j 0] [r, .own e l] =true/\aH7 r=true/\(∀rs,r≠ .tup rs)
 |xs=>∃ys,r= .tup ys/\iQ T σ.ar (appR ys [.own e l]) (appR xs [.arr j 0])/\iR (appR xs [.arr j 0]) (appR ys [.own e l])=true):dC6 T σ rs r j e l:=⟨h⟩
theorem ret_i{rs:List ResultVar}{r:V}(h:aH3 T σ rs fun xs=>match xs with
 | [x] =>iQ T σ.ar [r] [x]/\iR [x] [r] =true/\(∀rs,r≠ .tup rs)
 |xs=>∃ys,r= .tup ys/\iQ T σ.ar ys xs/\iR xs ys=true):dF3 T σ rs r:=by refine⟨.inl ?_⟩;exact h
theorem aP{ar:Nat->Option AE}{u u':Value}(h:u'=u):iQ T ar [.lit u] [.lit u']/\iR [.lit u'] [.lit u] =true/\(∀rs,(V.lit u)≠ .tup rs):=⟨⟨h,trivial⟩,rfl,fun _ h=>Ad⟩
theorem aG{ar:Nat->Option AE}{k:IntKind}{n n':Int}(h:n'=n):iQ T ar [.lit (.int k n)] [.lit (.int k n')]/\iR [.lit (.int k n')] [.lit (.int k n)] =true/\(∀rs,(V.lit (.int k n))≠ .tup rs):=aP (by rw[h])
theorem aK{ar:Nat->Option AE}{n n':Bool}(h:n'=n):iQ T ar [.lit (.bool n)] [.lit (.bool n')]/\iR [.lit (.bool n')] [.lit (.bool n)] =true/\(∀rs,(V.lit (.bool n))≠ .tup rs):=aP (by rw[h])
theorem eY0{en:AE}{g:Nat}{K:Prop}(h1:en.gen=g)(h2:en.kind≠ .dead)(hk:K):need (en.gen=g/\en.kind≠ .dead) K:=fU ⟨h1,h2⟩ hk
theorem iH{en:AE}{g e bytes size:Nat}{xs:List V}{K:Prop}(h1:en.gen=g)(h2:en.kind= .own\/en.kind= .ap)(h3:en.ty=e)(hb:bytes<=10000)(h5:∀x∈xs,x.cells.length=size)(h4:en.l.length+xs.length<=1000000000)(hk:K):
 need (en.gen=g/\(en.kind= .own\/en.kind= .ap)/\en.ty=e/\(en.l.length+xs.length)*bytes<=140737488355328/\en.l.length+xs.length<=140737488355328/\∀x∈xs,x.cells.length=size) K:=
 fU ⟨h1,h2,h3,Nat.le_trans (Nat.mul_le_mul h4 hb) Ak,Aa,h5⟩ hk
theorem gX{bytes size:Nat}{xs:List V}{K:Prop}(hb:bytes<=10000)(h5:∀x∈xs,x.cells.length=size)(h4:xs.length<=1000000000)(hk:K):
 need (xs.length*bytes<=140737488355328/\xs.length<=140737488355328/\∀x∈xs,x.cells.length=size) K:=
 fU ⟨Nat.le_trans (Nat.mul_le_mul h4 hb) Ak,Aa,h5⟩ hk
theorem dA{x:V}{n:Nat}(h:x.cells.length=n):∀y∈[x],y.cells.length=n:=fun y hy=>by cases List.mem_singleton.1 hy;exact h
theorem Le.trans{σ1 σ2 σ3:St}(h1:Le T σ1 σ2)(h2:Le T σ2 σ3):Le T σ1 σ3:=by
 unfold Le at*;intro Φ a w G inv;obtain⟨G1,i1⟩:=h1 Φ a w G inv;exact h2 Φ a w G1 i1
theorem eV6{es:List V}{s:Value}{z:V}{K:V->Prop}{v:V}(h:(jG s es).getD z=v)(k:K v):eG6 es s z K:=⟨by rw[h];exact k⟩
theorem eS1{f:Operand}{g:FuncId}{caps:List V}{ps wr:List Nat}{x y:aA2}{Q:Exit->St->Prop}(items:List (List V))(hs:aB0 T P g caps items)(hl:∀it∈items,it.length=ps.length){A:Type}(st:A->St)(inv:Nat->A->Prop)(p0:A)
 (h0:Le T σ (st p0))(h1:inv 0 p0)(hf:(st p0).ev f= .fn g caps)(h:∀k p it,inv k p->items[k]? =some it->x ⟨cM2 ps it (st p).env,(st p).bx,(st p).ar⟩ fun e σ1=>match e with
  | .normal=>y σ1 fun e σ2=>match e with
    | .normal=>∃p',Le T (sJ wr σ2) (st p')/\inv (k+1) p'
    | .ret=>Q .ret (sJ wr σ2)
    | .exit i=>Q (.exit i) (sJ wr σ2)
    |_=>False
  |_=>False)(he:∀p,inv items.length p->Q .normal (st p)):aO0 T P f g caps ps wr x y σ Q:=⟨items,hs,hl,A,st,inv,⟨p0,h0,h1,hf⟩,h,he⟩
theorem fB{k:Nat}{en:AE}(h:σ.ar k=some en)(hk:en.kind= .own\/en.kind= .ap):Le T σ (σ.apps [.a k ⟨en.gen, .frz,en.ty,en.l⟩]):=by
 unfold Le;intro Φ a w G inv;obtain⟨O',inv1,_,_⟩:=inv.freeze h hk;exact⟨_,inv1⟩
def aL5(k g:Nat)(l:List V)(x:V):V:=match x with
 | .arr j g'=>cond (Nat.beq j k) (cond (Nat.beq g' g) (.sl l) .bot) (.arr j g')
 |x=>x
def eE7(k g:Nat)(l:List V)(x:V):V:=match x with
 | .arr j g'=>cond (Nat.beq j k) (cond (Nat.beq g' g) (.sl l) .bot) (.arr j g')
 | .agg xs=> .agg (mapR (aL5 k g l) xs)
 |x=>x
def fD0(k:Nat)(en:AE)(σ:St):St:=⟨fun s=>eE7 k en.gen en.l (σ.env s),σ.bx,upd σ.ar k (some ⟨en.gen, .frz,en.ty,en.l⟩)⟩
end
section
abbrev ItQ:=Exit->Option Nat->St->Prop
abbrev ItC:=Option Nat->St->ItQ->Prop
def yieldOf(env:Nat->V)(o:Oper):Option (Nat×List Operand):=
 match o.op with
 | .call ⟨.value (.tmp t),⟨as⟩,_⟩=>match env t with| .lit (.func (.yield l) ⟨[]⟩ ⟨[]⟩)=>some (l,as)|_=>none
 |_=>none
structure dC9(items:List (List V))(l l':Nat)(k:Nat)(xs:List V)(A B:Prop):Prop where
 out:l'=l/\items[k]? =some xs/\bM xs/\A/\B
abbrev ItO:=Option Nat->(Nat->V)->(Nat->Option (List V))->(Nat->Option AE)->(Option Nat->St->Prop)->Prop
def cV6(T:Tab)(P:Program)(n:Nat)(items:List (List V))(yl:Nat)(ops:List Oper)(o:Oper)(ih:ItO):ItO:=fun k env bx ar K=>
 match yieldOf env o with
 |some (yl',as)=>match o.guard,k,o.dst with
  |none,some k,some d=>cond (Nat.blt d n) (dC9 items yl yl' k (mapR (St.ev ⟨env,bx,ar⟩) as) (ih (some (k+1)) (upd env d (B true)) bx ar K) (ih none (upd env d (B false)) bx ar K)) False
  |_,_,_=>False
 |none=>bH0 T P .free n ops o (fun env bx ar _=>ih k env bx ar K) env bx ar (fun _=>True)
def cE1(T:Tab)(P:Program)(n:Nat)(items:List (List V))(yl:Nat)(ops l:List Oper):ItO:=
 List.rec (motive:=fun _=>ItO) (fun k env bx ar K=>K k ⟨env,bx,ar⟩) (fun o _ ih=>cV6 T P n items yl ops o ih) l
structure eF8(x y:ItC)(k:Option Nat)(σ:St)(Q:ItQ):Prop where
 out:x k σ fun e k' σ'=>match e with
  | .normal=>y k' σ' Q
  |e=>Q e k' σ'
structure bX4(T:Tab)(x:ItC)(k:Option Nat)(σ:St)(Q:ItQ):Prop where
 out:∃(A:Type) (st:A->St) (kk:A->Option Nat) (inv:A->Prop) (m:A->Nat),(∃p,Le T σ (st p)/\inv p/\kk p=k)/\∀p,inv p->x (kk p) (st p) fun e k' σ'=>match e with
  | .normal=>∃p',Le T σ' (st p')/\inv p'/\kk p'=k'/\m p'<m p
  |e=>Q e k' σ'
def aI3(T:Tab)(P:Program)(n:Nat)(items:List (List V))(yl:Nat)(c:Code):ItC:=
 Code.rec (motive:=fun _=>ItC)
  (fun k σ Q=>Q .normal k σ)
  (fun _ ops draw k σ Q=>match σ with|⟨env,bx,ar⟩=>match draw with
   |true=>aC9 T env ops.toList (fun hv=>aY0 T P (.drawn hv) n ops.toList ops.toList env bx ar (Q .normal k))
   |false=>cE1 T P n items yl ops.toList ops.toList k env bx ar (Q .normal))
  (fun _ _ iha ihb=>eF8 iha ihb)
  (fun c _ _ iht ihe k σ Q=>match σ.ev c with
   | .lit (.bool b)=>branch b (iht k σ Q) (ihe k σ Q)
   |_=>False)
  (fun id _ ih k σ Q=>ih k σ fun e k' σ'=>match e with
   | .exit i=>cond (Nat.beq i id) (Q .normal k' σ') (Q (.exit i) k' σ')
   |e=>Q e k' σ')
  (fun _ ih=>bX4 T ih)
  (fun _ _ _ _ _ _ _ _ _=>False)
  (fun id k σ Q=>Q (.exit id) k σ)
  (fun _ ih k σ Q=>ih k σ fun e k' σ'=>match e with
   | .goto _=>False
   |e=>Q e k' σ')
  (fun _ k σ Q=>Q .normal k σ)
  (fun _ _ _ _=>False)
  (fun k σ Q=>Q .ret k σ)
  (fun _ _ _ _=>False) c
def dZ2(n:Nat)(k:Option Nat):Prop:=match k with|some k=>k=n|none=>True
def itVC(T:Tab)(P:Program)(fn:Func)(caps:List V)(items:List (List V)):Prop:=
 match fn.body,fn.results.toList with
 |some c,[] =>∀l:Nat,aI3 T P fn.ntmps items l c (some 0) (uD (.lit (.func (.yield l) ⟨[]⟩ ⟨[]⟩)::caps)) fun e k _=>match e with
  | .normal=>dZ2 items.length k
  | .ret=>dZ2 items.length k
  |_=>False
 |_,_=>False
variable{T:Tab}{P:Program}{Φ:Fr}{σ:St}{a:Act}{w w':World}{G G':Gh}{o:Oper}
theorem Inv.move(inv:Inv T Φ σ a w G)(hs:w.heap.size<=w'.heap.size)(hb:∀b,G.O b≠ .ext->w'.heap[b]? =w.heap[b]?)(ho:w'.os=w.os)(ht:w'.tape=w.tape)(hu:w'.output=w.output):Inv T (Φ.at w' G) σ a w' G:=by
 have inv1:Inv T {(Φ.at w G)with given:=fun b=>G.O b≠ .fz} σ a w G:=by
  have i:=inv.up;refine {nd:=i.nd,kp:=i.kp,sz:=i.sz,env:=i.env,wfE:=i.wfE,box:=i.box,wfB:=i.wfB,arr:=i.arr,wfA:=i.wfA,tag:=i.tag,mineB:=fun b j h=> .inr (by show G.O b≠ .fz;rw[h];simp),mineA:=fun b k h=> .inr (by show G.O b≠ .fz;rw[h];simp),fzm:=fun b h=> .inl h,F0:=i.F0,frame:=fun b _ _=>rfl,size:=i.size,os:=i.os,tape:=i.tape,output:=i.output,args:=i.args,lay:=⟨i.lay.1,fun b hb=>⟨(i.lay.2 b hb).1,fun h=>h hb⟩⟩,argb:=i.argb}
 have inv2:=inv1.change (w':=w') (G':=G) rfl ⟨fun _ h=>h,fun b h=>hb b FX⟩ (fun _ _=>rfl) (fun _ _ _=>rfl) (fun _ h=>h) (fun _ _ h=>h)
  (fun i cs hi=> .inl ⟨hi,(inv1.box i cs hi).choose_spec.choose_spec.2.2,hb _ (by rw[(inv1.box i cs hi).choose_spec.choose_spec.2.2];simp)⟩)
  (fun k en hk=> .inl ⟨hk,fun b hbk=>⟨hbk,hb b (by rw[hbk];simp)⟩⟩)
  (fun b h=>Nat.lt_of_lt_of_le (inv1.tag b h) hs) (fun _=> .inl rfl)
  (fun b=>by
   by_cases h:G.O b= .fz
   ·exact .inl (hb b FX)
   ·exact .inr (.inr h)) hs ho ht hu
 exact inv2.up
structure pU(T:Tab)(n:Nat)(w:World)(JX:Option Nat->World->Gh->Prop)(k:Option Nat)(σ:St)(a:Act)(W:World)(Φ:Fr)(G' Gi:Gh):Prop where
 nn:Φ.n=n
 ds:Φ.ds=[]
 kp:Φ.keep=fun _=>none
 jx:JX k Φ.w0 G'
 tag:∀b,G'.O b≠ .ext->b<Φ.w0.heap.size
 F0:∀b,Φ.F0 b->G'.O b= .fz\/(w.heap.size<=b/\G'.O b= .ext)
 given:∀b,Φ.given b->w.heap.size<=b/\G'.O b= .ext
 size:w.heap.size<=Φ.w0.heap.size
 inv:Inv T Φ σ a W Gi
section
variable{n:Nat}{JX:Option Nat->World->Gh->Prop}{k:Option Nat}{Gi:Gh}{w0 W:World}
theorem pU.own(h:pU T n w0 JX k σ a W Φ G' Gi){b:Nat}(hb:Gi.O b≠ .ext):(Gi.O b= .fz/\G'.O b= .fz)\/(w0.heap.size<=b/\b<W.heap.size/\G'.O b= .ext):=by
 have hm:Φ.mine b->w0.heap.size<=b/\G'.O b= .ext:=fun hm=>by
  rcases hm with hm|hm
  ·refine⟨Nat.le_trans h.size hm,?_⟩
   cases hO:G'.O b with
   |ext=>rfl
   |_=>have:=h.tag b He;omega
  ·exact h.given b hm
 have hlt:=h.inv.tag b hb
 cases hO:Gi.O b with
 |ext=>exact absurd hO hb
 |bx i=>
  obtain⟨q1,q2⟩:=hm (h.inv.mineB b i hO);exact .inr ⟨q1,hlt,q2⟩
 |ar i=>
  obtain⟨q1,q2⟩:=hm (h.inv.mineA b i hO);exact .inr ⟨q1,hlt,q2⟩
 |fz=>
  rcases h.inv.fzm b hO with h1|h1
  ·rcases h.F0 b h1 with h2|h2
   ·exact .inl ⟨rfl,h2⟩
   ·exact .inr ⟨h2.1,hlt,h2.2⟩
  ·obtain⟨q1,q2⟩:=hm h1
   exact .inr ⟨q1,hlt,q2⟩
def Jcl(w:World)(JX:Option Nat->World->Gh->Prop):Prop:=∀k W W' G',JX k W G'->W.heap.size<=W'.heap.size->(∀b,b<W.heap.size->(G'.O b≠ .ext\/b<w.heap.size)->W'.heap[b]? =W.heap[b]?)->W'.os=W.os->W'.tape=W.tape->W'.output=W.output->JX k W' G'
def Jfz(w:World)(JX:Option Nat->World->Gh->Prop):Prop:=∀k W G' G'',JX (some k) W G'->G''.β=G'.β->G''.av=G'.av->(∀b,G''.O b=G'.O b\/(w.heap.size<=b/\b<W.heap.size/\G'.O b= .ext/\G''.O b= .fz))->JX (some k) W G''
def dA0(P:Program)(w:World)(items:List (List V))(l:Nat)(JX:Option Nat->World->Gh->Prop):Prop:=∀k W G' vs it,JX (some k) W G'->items[k]? =some it->vs.size=it.length->(∀(j:Nat) v y,vs[j]? =some v->it[j]? =some y->y.pure/\Rv W G' v y)->
 YieldAt (FW none) 0 P l vs W fun e W'=>(e= .returned (.bool true)/\∃G2,JX (some (k+1)) W' G2/\xN w W W' G' G2)\/(e= .returned (.bool false)/\∃G2,JX none W' G2/\xN w W W' G' G2)
theorem pU.now(h:pU T n w0 JX k σ a W Φ G' Gi)(hJ:Jcl w0 JX):JX k W G':=
 hJ k _ _ _ h.jx h.inv.size (fun b hb hor=>h.inv.frame b hb (fun hg=>by
  obtain⟨q1,q2⟩:=h.given b hg;rcases hor with hor|hor
  ·exact hor q2
  ·omega)) h.inv.os h.inv.tape h.inv.output
theorem pU.next(h:pU T n w0 JX k σ a W Φ G' Gi){σ':St}{a':Act}{W':World}{Gi':Gh}(inv:Inv T Φ σ' a' W' Gi'):pU T n w0 JX k σ' a' W' Φ G' Gi':={h with inv:=inv}
theorem cS1{t l:Nat}{as:List Operand}{ts:Array TypeId}{fn:FuncId}{tmps:Array Value}{as' body:Code}(ho:o.op= .call ⟨.value (.tmp t),⟨as⟩,ts⟩)(ht:a.tmps.getD t undef= .func (.yield l) #[] #[])
 (hy:(Instr.yield l (as.map a.eval).toArray).run P w= .ok (.round l fn tmps as' body) w):(execOp a.eval o).run P w= .ok (.round l fn tmps as' body) w:=by
 have ht':a.eval (.tmp t)= .func (.yield l) #[] #[] :=ht;simp[execOp,ho,resolve,ht',Deferred.ofValue,invoke,hy]
theorem eH0(hJ:Jcl w0 JX)(hF:Jfz w0 JX){items:List (List V)}{l:Nat}(hY:dA0 P w0 items l JX){kk d t:Nat}{as:List Operand}{ts:Array TypeId}(ho:o.op= .call ⟨.value (.tmp t),⟨as⟩,ts⟩)(hd:o.dst=some d)(hdn:d<n)(hg:σ.env t= .lit (.func (.yield l) ⟨[]⟩ ⟨[]⟩))
 (h:pU T n w0 JX (some kk) σ a W Φ G' Gi)(hit:items[kk]? =some (as.map σ.ev))(hp:bM (as.map σ.ev)){next:Act->World->Prop}{Q:Exit->Act->World->Prop}
 (hn:∀(b:Bool) a' W' Φ' G2,pU T n w0 JX (match b with|true=>some (kk+1)|false=>none) (σ.set d (B b)) a' W' Φ' G2 Gi->next a' W'):o.wpIn (FW none) 0 P a W next Q:=by
 have htv:a.tmps.getD t undef= .func (.yield l) #[] #[] :=by
  have:=h.inv.env t;rw[hg]at this;exact this.bH
 let G2:Gh:={G' with O:=fun b=>match G'.O b,Gi.O b with| .ext, .fz=> .fz|x,_=>x}
 have hO2:∀b,G2.O b=G'.O b\/(w0.heap.size<=b/\b<W.heap.size/\G'.O b= .ext/\G2.O b= .fz):=fun b=>by
  cases hO:G'.O b with
  |ext=>
   cases hOi:Gi.O b with
   |fz=>
    rcases h.own (b:=b) (by rw[hOi];simp)with q|q
    ·rw[q.2]at hO;cases hO
    ·exact .inr ⟨q.1,q.2.1,rfl,by simp[G2,hO,hOi]⟩
   |_=>exact .inl (by simp[G2,hO,hOi])
  |_=>exact .inl (by simp[G2,hO])
 have hfz:∀b,Gi.O b= .fz->G2.O b= .fz:=fun b hb=>by
  rcases h.own (b:=b) Ar with q|q
  ·simp[G2,q.2]
  ·simp[G2,q.2.2,hb]
 have hj:=hF kk W G' G2 (h.now hJ) rfl rfl hO2
 obtain⟨fn,tmps,as',body,hy,hR⟩:=hY kk W G2 (as.map a.eval).toArray _ hj hit Ae (fun j v y hv hy=>by
  have hjl:j<as.length:=by
   have:=(List.getElem?_eq_some_iff.1 hy).1;simpa using this
  have e1:v=a.eval as[j] :=by simpa [hjl]using hv.symm
  have e2:y=σ.ev as[j] :=by simpa [hjl]using hy.symm
  have hpy:y.pure:=aH.1 hp y (List.mem_of_getElem? hy);refine⟨hpy,?_⟩;rw[e1];rw[e2]at hpy⊢;exact(h.inv.ev as[j]).1.aW ⟨hfz,fun _ _=>rfl⟩ hpy)
 refine⟨fun _ _=>trivial,?_⟩;rw[Oper.semAt_eq _ _ _ (fun c=>by rw[ho];exact fun h=>by cases h),cS1 ho htv hy,Oper.uponIn_round]
 refine⟨fun hh=>Et,hR.mono ?_⟩
 have fin:∀(b:Bool) (W':World) (G3:Gh),JX (match b with|true=>some (kk+1)|false=>none) W' G3->xN w0 W W' G2 G3->next (a.put o.dst (.bool b)) W':=by
  intro b W' G3 hx ik
  have hsame:∀b,Gi.O b≠ .ext->W'.heap[b]? =W.heap[b]? :=fun b hb=>by
   by_cases hfb:Gi.O b= .fz
   ·exact ik.keep.heap b (hfz b hfb)
   ·rcases h.own hb with q|q
    ·exact absurd q.1 hfb
    ·refine(ik.own b q.1 q.2.1 ?_).1
     cases hOi:Gi.O b with
     |fz=>exact absurd hOi hfb
     |_=>simp[G2,q.2.2,hOi]
  have inv1:=h.inv.move ik.size hsame ik.os ik.tape ik.output;have inv2:=inv1.bA3 (d:=d) (v':= .bool b) (v:=B b) ⟨by show d<Φ.n;rw[h.nn];exact hdn,by show Φ.keep d=none;rw[h.kp]⟩ (.lit _ rfl) (by simp only[B,V.ok])
  rw[hd];refine hn b _ W' (Φ.at W' Gi) G3 ⟨h.nn,h.ds,h.kp,hx,ik.tag,fun b hb=>?_,fun b hb=>?_,Nat.le_trans h.size (Nat.le_trans h.inv.size ik.size),inv2⟩
  ·exact .inl (ik.keep.fz b (hfz b hb))
  ·rcases h.own hb.2 with q|q
   ·exact absurd q.1 hb.1
   ·refine⟨q.1,(ik.own b q.1 q.2.1 ?_).2⟩
    have hbf:Gi.O b≠ .fz:=hb.1
    cases hOi:Gi.O b with
    |fz=>exact absurd hOi hbf
    |_=>simp[G2,q.2.2,hOi]
 rintro e W' (⟨rfl,G3,hx,ik⟩|⟨rfl,G3,hx,ik⟩)
 ·exact fin true W' G3 hx ik
 ·exact fin false W' G3 hx ik
def eE2(T:Tab)(n:Nat)(w0:World)(JX:Option Nat->World->Gh->Prop)(Q:ItQ)(e:Exit)(a:Act)(w:World):Prop:=∃k σ Φ G' Gi,Q e k σ/\pU T n w0 JX k σ a w Φ G' Gi
theorem eS2(hT:bP T P)(hJ:Jcl w0 JX)(hF:Jfz w0 JX){items:List (List V)}{l:Nat}(hY:dA0 P w0 items l JX){ops:List Oper}{opsA:Array Oper}(hA:opsA.toList=ops){K:Option Nat->St->Prop}{Q:Exit->Act->World->Prop}(hQ:∀k σ' a' w' Φ G' Gi,K k σ'->pU T n w0 JX k σ' a' w' Φ G' Gi->Q .normal a' w'):
 ∀(r:List Oper) (k:Option Nat) (σ:St) (a:Act) (W:World) (Φ:Fr) (G' Gi:Gh),pU T n w0 JX k σ a W Φ G' Gi->cE1 T P n items l ops r k σ.env σ.bx σ.ar K->wpListIn (FW none) 0 P opsA Q r a W:=by
 intro r
 induction r with
 |nil=>intro k σ a W Φ G' Gi h hk;exact hQ k σ a W Φ G' Gi hk h
 |cons o r ih=>
  intro k σ a W Φ G' Gi h hk;have hk':cV6 T P n items l ops o (cE1 T P n items l ops r) k σ.env σ.bx σ.ar K:=hk;unfold cV6 at hk';split at hk'
  ·rename_i yl' as hy
   split at hk'
   ·rename_i kk d hg hd
    obtain⟨hdn,hk2⟩:=aT hk';obtain⟨q0,q1,q2,q3,q4⟩:=hk2.out;subst q0;rw[dU]at q1 q2;unfold yieldOf at hy;split at hy
    ·rename_i t as' ts ho
     split at hy
     ·rename_i hv
      cases hy;unfold wpListIn;rw[if_pos EP];refine eH0 hJ hF hY ho hd (blt hdn) hv h q1 q2 ?_;intro b a' W' Φ' G2 h'
      cases b with
      |true=>exact ih _ (σ.set d (B true)) a' W' Φ' G2 Gi h' q3
      |false=>exact ih _ (σ.set d (B false)) a' W' Φ' G2 Gi h' q4
     ·cases hy
    ·cases hy
   ·exact hk'.elim
  ·have hst:=aX6 (σ:=σ) hk'
   have hkp:∀d,o.dst=some d->Φ.keep d=none:=fun d _=>by rw[h.kp]
   have hst':Step T P .free Φ.n ops o σ fun σ'=>cE1 T P n items l ops r k σ'.env σ'.bx σ'.ar K:=by rw[h.nn];exact hst
   have:=bZ3 hT h.inv hA hkp hst' (Q:=Q) none;unfold wpListIn;split
   ·rename_i hw
    rw[if_pos hw]at this;exact Oper.wpIn_mono (fun a' w' ⟨σ',G2,hk,inv'⟩=>ih k σ' a' w' Φ G' G2 (h.next inv') hk) this
   ·rename_i hw
    rw[if_neg hw]at this;obtain⟨G2,σ',hk,inv'⟩:=this;exact⟨fun _ _=>trivial,ih k σ' _ W Φ G' G2 (h.next inv') hk⟩
theorem eQ3(hT:bP T P)(hm:P.follows .mixedOrders=true)(hJ:Jcl w0 JX)(hF:Jfz w0 JX){items:List (List V)}{l:Nat}(hY:dA0 P w0 items l JX)(c:Code):∀(k:Option Nat) (σ:St) (a:Act) (W:World) (Φ:Fr) (G' Gi:Gh) (Q:ItQ),pU T n w0 JX k σ a W Φ G' Gi->aI3 T P n items l c k σ Q->c.wpIn (FW none) 0 P (eE2 T n w0 JX Q) a W:=by
 induction c with
 |skip=>intro k σ a W Φ G' Gi Q h hq;exact wpIn_skip ⟨k,σ,Φ,G',Gi,hq,h⟩
 |region id ops draw=>
  intro k σ a W Φ G' Gi Q h hq
  cases draw with
  |false=>
   have h':cE1 T P n items l ops.toList ops.toList k σ.env σ.bx σ.ar (Q .normal):=by cases σ;exact hq
   exact wpIn_region_list (eS2 hT hJ hF hY rfl (fun k σ' a' w' Φ G' Gi hk hi=>⟨k,σ',Φ,G',Gi,hk,hi⟩) ops.toList k σ a W Φ G' Gi h h')
  |true=>
   have h':aC9 T σ.env ops.toList (fun hv=>aY0 T P (.drawn hv) n ops.toList ops.toList σ.env σ.bx σ.ar (Q .normal k)):=by cases σ;exact hq
   replace h':=h'.out;obtain⟨cl,hv,h0,h1,h2⟩:=h';have hr:=aS6 ops.toList σ h2;rw[<-h.nn]at hr;exact bC4 hT none hm rfl (fun o _ d _=>by rw[h.kp]) h1 (dC3 h.inv.wfE h0) (fun σ' a' w' G2 hk inv'=>⟨k,σ',Φ,G',G2,hk,h.next inv'⟩) id h.inv hr
 |seq x y ihx ihy=>
  intro k σ a W Φ G' Gi Q h hq;have h':eF8 (aI3 T P n items l x) (aI3 T P n items l y) k σ Q:=hq;refine wpIn_seq (wpIn_mono (ihx k σ a W Φ G' Gi _ h h'.out) ?_);rintro e a' w' ⟨k',σ',Φ',G2,G3,hq',hi⟩
  cases e with
  |normal=>exact ihy k' σ' a' w' Φ' G2 G3 Q hi hq'
  |_=>exact⟨k',σ',Φ',G2,G3,hq',hi⟩
 |cond c x y ihx ihy=>
  intro k σ a W Φ G' Gi Q h hq
  have h':(match σ.ev c with
   | .lit (.bool b)=>branch b (aI3 T P n items l x k σ Q) (aI3 T P n items l y k σ Q)
   |_=>False):=hq
  have he:=(h.inv.ev c).1;split at h'
  ·rename_i b hb
   rw[hb]at he
   cases b with
   |true=>exact wpIn_cond_true he.bH (ihx k σ a W Φ G' Gi Q h h')
   |false=>exact wpIn_cond_false he.bH (ihy k σ a W Φ G' Gi Q h h')
  ·exact h'.elim
 |block id c ih=>
  intro k σ a W Φ G' Gi Q h hq;refine wpIn_block (wpIn_mono (ih k σ a W Φ G' Gi _ h hq) ?_);rintro e a' w' ⟨k',σ',Φ',G2,G3,hq',hi⟩
  cases e with
  |exit i=>
   have hq2:cond (Nat.beq i id) (Q .normal k' σ') (Q (.exit i) k' σ'):=hq';show Exit.inBlock id (eE2 T n w0 JX Q) (.exit i) a' w';by_cases hi':i=id
   ·subst hi'
    have hb:Nat.beq i i=true:=Nat.beq_refl i;rw[hb]at hq2;simp only[Exit.inBlock,if_true];exact⟨k',σ',Φ',G2,G3,hq2,hi⟩
   ·have hb:Nat.beq i id=false:=by rw[<-Bool.not_eq_true,Nat.beq_eq];exact hi'
    rw[hb]at hq2;simp only[Exit.inBlock,if_neg hi'];exact⟨k',σ',Φ',G2,G3,hq2,hi⟩
  |_=>exact⟨k',σ',Φ',G2,G3,hq',hi⟩
 |loop c ih=>
  intro k σ a W Φ G' Gi Q h hq;have h':bX4 T (aI3 T P n items l c) k σ Q:=hq;obtain⟨A,st,kk,inv,m,⟨p0,hle0,hi0,hk0⟩,hround⟩:=h'.out
  have weak:∀ {k:Option Nat} {σ1 σ2:St} {a:Act} {W:World} {Φ:Fr} {G' Gi:Gh},Le T σ1 σ2->pU T n w0 JX k σ1 a W Φ G' Gi->∃Φ Gi,pU T n w0 JX k σ2 a W Φ G' Gi:=by
   intro k σ1 σ2 a W Φ G' Gi hle h;obtain⟨G2,inv2⟩:=hle.out h.inv.up;have hown:=fun b=>h.own (b:=b);refine⟨Φ.at W Gi,G2,?_⟩
   exact⟨h.nn,h.ds,h.kp,h.now hJ,fun b hb=>Nat.lt_of_lt_of_le (h.tag b hb) h.inv.size,fun b hb=>by
    rcases hown b (by rw[show Gi.O b= .fz from hb];simp)with q|q
    ·exact .inl q.2
    ·exact .inr ⟨q.1,q.2.2⟩,fun b hb=>by
    rcases hown b hb.2 with q|q
    ·exact absurd q.1 hb.1
    ·exact⟨q.1,q.2.2⟩,Nat.le_trans h.size h.inv.size,inv2⟩
  obtain⟨Φ0,G0,h0⟩:=weak hle0 h;subst hk0;refine wpIn_loop_ghost (fun n' a w=>∃p Φ G' Gi,m p=n'/\inv p/\pU T n w0 JX (kk p) (st p) a w Φ G' Gi) (m p0) ⟨p0,Φ0,G',G0,rfl,hi0,h0⟩ ?_;rintro n' a' w' ⟨p,Φ1,G1,G2,rfl,hi,h1⟩;refine wpIn_mono (ih (kk p) (st p) a' w' Φ1 G1 G2 _ h1 (hround p hi)) ?_;rintro e a2 w2 ⟨k',σ',Φ',G3,G4,hq',hi'⟩
  cases e with
  |normal=>
   obtain⟨p',hle,hp',hkk,hlt⟩:=hq';subst hkk;obtain⟨Φ5,G5,h5⟩:=weak hle hi';exact⟨m p',hlt,p',Φ5,G3,G5,rfl,hp',h5⟩
  |_=>exact⟨k',σ',Φ',G3,G4,hq',hi'⟩
 |rangeFunc f ps x y ihx ihy=>intro k σ a W Φ G' Gi Q h hq;exact(hq:False).elim
 |exit id=>intro k σ a W Φ G' Gi Q h hq;exact wpIn_exit ⟨k,σ,Φ,G',Gi,hq,h⟩
 |scope c ih=>
  intro k σ a W Φ G' Gi Q h hq;refine bE2 (wpIn_mono (ih k σ a W Φ G' Gi _ h hq) ?_);rintro e a' w' ⟨k',σ',Φ',G2,G3,hq',hi⟩
  cases e with
  |goto l=>exact hq'.elim
  |_=>exact⟨k',σ',Φ',G2,G3,hq',hi⟩
 |label l=>intro k σ a W Φ G' Gi Q h hq;exact wpIn_label ⟨k,σ,Φ,G',Gi,hq,h⟩
 |goto l=>intro k σ a W Φ G' Gi Q h hq;exact(hq:False).elim
 |ret=>intro k σ a W Φ G' Gi Q h hq;exact wpIn_ret ⟨k,σ,Φ,G',Gi,hq,h⟩
 |refuse s=>intro k σ a W Φ G' Gi Q h hq;exact(hq:False).elim
end
theorem dZ5(hT:bP T P)(hm:P.follows .mixedOrders=true){f:FuncId}{fn:Func}(hf:P.funcs[f]? =some fn)(hc:callable P f=true){caps:List V}{items:List (List V)}(hn:caps.length+1<=fn.ntmps)(hl:allR (fun y=> !linear y) caps=true)(h:itVC T P fn caps items):aB0 T P f caps items:=by
 refine⟨hc,fun w G lb l hlb htag hcaps hlay J X hJ hX hJf hY h0=>?_⟩;unfold itVC at h;split at h
 ·rename_i c hb hres
  have h:=h l
  let JX:Option Nat->World->Gh->Prop:=fun k W G=>match k with|some k=>J k W G|none=>X W G
  have hcl:Jcl w JX:=fun k W W' G'=>by
   cases k with
   |some k=>exact hJ k W W' G'
   |none=>exact hX W W' G'
  let Gi:Gh:={G with O:=fun b=>match G.O b with| .fz=> .fz|_=> .ext}
  have hfz:∀b,Gi.O b= .fz↔G.O b= .fz:=fun b=>by
   show(match G.O b with| .fz=>Tag.fz|_=> .ext)= .fz↔_
   cases G.O b<;>simp
  have hkp:Keep w w G Gi:=⟨fun b hb=>(hfz b).2 hb,fun _ _=>rfl⟩;have hlay':T.lay w (fun b=>Gi.O b= .fz):=T.lay_mono (fun b hb=>⟨(hfz b).2 hb,rfl⟩) hlay
  let Φ:Fr:=⟨w,fun _=>False,fun b=>Gi.O b= .fz,fn.ntmps,fun _=>none,fun _=>none,[],fun _=>none⟩
  have hsz:(#[Value.func (.yield l) #[] #[]] ++lb).size=caps.length+1:=by simp[hlb];omega
  have hlin:∀(j:Nat) y,caps[j]? =some y->linear y=false:=fun j y hy=>by
   have:=dY.1 hl y (List.mem_of_getElem? hy);simpa using this
  have hin:∀(s:Nat) y,(V.lit (Value.func (.yield l) ⟨[]⟩ ⟨[]⟩)::caps)[s]? =some y->linear y=false/\y.pure/\Rv w Gi ((#[Value.func (.yield l) #[] #[]] ++lb).getD s undef) y:=by
   intro s y hy
   cases s with
   |zero=>
    simp at hy;subst hy;refine⟨rfl,Gy,?_⟩
    have e:(#[Value.func (.yield l) #[] #[]] ++lb).getD 0 undef=Value.func (.yield l) #[] #[] :=by
     rw[Array.getD_eq_getD_getElem?,Array.getElem?_append_left Ae];rfl
    rw[e];exact .lit _ rfl
   |succ s=>
    have hy':caps[s]? =some y:=EW;have hs:s<lb.size:=by rw[hlb];exact(List.getElem?_eq_some_iff.1 hy').1
    obtain⟨q1,q2⟩:=hcaps s lb[s] y (by simp[hs]) hy'
    refine⟨hlin s y hy',q1,?_⟩
    have e:(#[Value.func (.yield l) #[] #[]] ++lb).getD (s+1) undef=lb[s] :=by
     rw[Array.getD_eq_getD_getElem?,Array.getElem?_append_right Ae];simp[hs]
    rw[e];exact q2.aW hkp q1
  have henv:∀s,(uD (V.lit (Value.func (.yield l) ⟨[]⟩ ⟨[]⟩)::caps)).env s=match(V.lit (Value.func (.yield l) ⟨[]⟩ ⟨[]⟩)::caps)[s]? with|some y=>y|none=> .tup [] :=fun s=>by
   have e0:(uD (V.lit (Value.func (.yield l) ⟨[]⟩ ⟨[]⟩)::caps)).env=pF (V.lit (Value.func (.yield l) ⟨[]⟩ ⟨[]⟩)::caps) 0:=rfl;rw[e0,lY];simp only[Nat.zero_le,if_true,Nat.sub_zero]
   cases hy:(V.lit (Value.func (.yield l) ⟨[]⟩ ⟨[]⟩)::caps)[s]? with
   |none=>rfl
   |some y=>simp[(hin s y hy).1]
  have har:∀k,(uD (V.lit (Value.func (.yield l) ⟨[]⟩ ⟨[]⟩)::caps)).ar k=none:=fun k=>by
   have e0:(uD (V.lit (Value.func (.yield l) ⟨[]⟩ ⟨[]⟩)::caps)).ar=jK (V.lit (Value.func (.yield l) ⟨[]⟩ ⟨[]⟩)::caps) 0:=rfl;rw[e0,gY];simp only[Nat.zero_le,if_true,Nat.sub_zero]
   cases hy:(V.lit (Value.func (.yield l) ⟨[]⟩ ⟨[]⟩)::caps)[k]? with
   |none=>rfl
   |some y=>
    have:=(hin k y hy).1;cases y<;>simp_all [linear]
  have inv:Inv T Φ (uD (V.lit (Value.func (.yield l) ⟨[]⟩ ⟨[]⟩)::caps)) {tmps:=(#[Value.func (.yield l) #[] #[]] ++lb)++Array.replicate (fn.ntmps- (#[Value.func (.yield l) #[] #[]] ++lb).size) undef,defers:=[]} w Gi:=by
   constructor
   ·rfl
   ·intro s v hs;cases hs
   ·show((#[Value.func (.yield l) #[] #[]] ++lb)++Array.replicate (fn.ntmps- (#[Value.func (.yield l) #[] #[]] ++lb).size) undef).size=fn.ntmps
    rw[Array.size_append,Array.size_replicate,hsz];omega
   ·intro s
    rw[henv s];by_cases hs:s< (#[Value.func (.yield l) #[] #[]] ++lb).size
    ·have hv:((#[Value.func (.yield l) #[] #[]] ++lb)++Array.replicate (fn.ntmps- (#[Value.func (.yield l) #[] #[]] ++lb).size) undef).getD s undef=(#[Value.func (.yield l) #[] #[]] ++lb).getD s undef:=by
      rw[Array.getD_eq_getD_getElem?,Array.getD_eq_getD_getElem?,Array.getElem?_append_left hs]
     have hy:(V.lit (Value.func (.yield l) ⟨[]⟩ ⟨[]⟩)::caps)[s]? =some (V.lit (Value.func (.yield l) ⟨[]⟩ ⟨[]⟩)::caps)[s] :=List.getElem?_eq_getElem (by rw[hsz]at hs;simpa using hs)
     show Rv w Gi (((#[Value.func (.yield l) #[] #[]] ++lb)++Array.replicate (fn.ntmps- (#[Value.func (.yield l) #[] #[]] ++lb).size) undef).getD s undef) _;rw[hv,hy];exact(hin s _ hy).2.2
    ·have hy:(V.lit (Value.func (.yield l) ⟨[]⟩ ⟨[]⟩)::caps)[s]? =none:=List.getElem?_eq_none (by rw[hsz]at hs;simp;omega)
     rw[hy]
     have hv:((#[Value.func (.yield l) #[] #[]] ++lb)++Array.replicate (fn.ntmps- (#[Value.func (.yield l) #[] #[]] ++lb).size) undef).getD s undef=undef:=by
      rw[Array.getD_eq_getD_getElem?,Array.getElem?_append_right Aa];by_cases h2:s- (#[Value.func (.yield l) #[] #[]] ++lb).size<fn.ntmps- (#[Value.func (.yield l) #[] #[]] ++lb).size
      ·rw[Array.getElem?_replicate,if_pos h2];rfl
      ·rw[Array.getElem?_eq_none (by rw[Array.size_replicate];omega)];rfl
     show Rv w Gi (((#[Value.func (.yield l) #[] #[]] ++lb)++Array.replicate (fn.ntmps- (#[Value.func (.yield l) #[] #[]] ++lb).size) undef).getD s undef) _;rw[hv];exact xK w Gi
   ·intro s
    rw[henv s]
    cases hy:(V.lit (Value.func (.yield l) ⟨[]⟩ ⟨[]⟩)::caps)[s]? with
    |none=>simp only[V.ok,V.okL]
    |some y=>exact V.pure.ok (hin s y hy).2.1 _ _
   ·intro i cs' hi
    exact N8
   ·intro i cs' hi
    exact N8
   ·intro k en hen;rw[har k]at hen;cases hen
   ·intro k en hen;rw[har k]at hen;cases hen
   ·intro b hb
    refine htag b ?_;intro he;have:Gi.O b= .ext:=by show(match G.O b with| .fz=>Tag.fz|_=> .ext)=_;rw[he]
    exact hb this
   ·intro b i hb
    exact OA
   ·intro b k hb
    exact OA
   ·intro b hb;exact .inl hb
   ·intro b hb;exact hb
   ·intro b _ _;rfl
   ·exact Nat.le_refl _
   ·rfl
   ·rfl
   ·rfl
   ·intro j v h;cases h
   ·exact⟨hlay',fun b hb=>⟨htag b (by rw[(hfz b).1 hb];simp),fun h=>h⟩⟩
   ·intro i b h;cases h
  have hi:pU T fn.ntmps w JX (some 0) (uD (V.lit (Value.func (.yield l) ⟨[]⟩ ⟨[]⟩)::caps)) {tmps:=(#[Value.func (.yield l) #[] #[]] ++lb)++Array.replicate (fn.ntmps- (#[Value.func (.yield l) #[] #[]] ++lb).size) undef,defers:=[]} w Φ G Gi:=
   ⟨rfl,rfl,rfl,h0,htag,fun b hb=> .inl ((hfz b).1 hb),fun b hb=>hb.elim,Nat.le_refl _,inv⟩
  refine callsIn_of_wp (F:=FW none) hf hb trivial (wpIn_mono (eQ3 hT hm hcl hJf hY c _ _ _ w Φ G Gi _ hi h) ?_)
  have fin:∀(k:Option Nat) (σ:St) (a':Act) (w':World) (Φ:Fr) (G' Gi:Gh),dZ2 items.length k->pU T fn.ntmps w JX k σ a' w' Φ G' Gi->a'.defers=[]/\∃v,(results fn a'.tmps).run P w'= .ok v w'/\((∃v',Ending.returned v= .returned v')/\((∃G',J items.length w' G')\/∃G',X w' G')):=by
   intro k σ a' w' Φ G' Gi hk hi;have hnow:=hi.now hcl;refine⟨by rw[hi.inv.nd,hi.ds], .tuple #[],?_,⟨_,rfl⟩,?_⟩
   ·have hr:fn.results= #[] :=by
     have:=congrArg List.toArray hres;simpa using this
    simp[results,hr]
   ·cases k with
    |none=>exact .inr ⟨G',hnow⟩
    |some k=>
     have:k=items.length:=hk;subst this;exact .inl ⟨G',hnow⟩
  rintro e a' w' ⟨k,σ,Φ',G',Gi',hq,hi'⟩
  cases e with
  |normal=>exact fin k σ a' w' Φ' G' Gi' hq hi'
  |ret=>exact fin k σ a' w' Φ' G' Gi' hq hi'
  |exit id=>exact(hq:False).elim
  |goto l=>exact(hq:False).elim
  |panic c=>exact(hq:False).elim
  |outgrown=>exact(hq:False).elim
 ·exact h.elim
theorem cD0{x y:ItC}{k:Option Nat}{Q:ItQ}(h:x k σ fun e k' σ'=>match e with
 | .normal=>y k' σ' Q
 |e=>Q e k' σ'):eF8 x y k σ Q:=⟨h⟩
theorem eD4{x:ItC}{k:Option Nat}{Q:ItQ}{A:Type}(st:A->St)(kk:A->Option Nat)(inv:A->Prop)(m:A->Nat)(p0:A)(h0:Le T σ (st p0))(h1:inv p0)(hk:kk p0=k)(h:∀p,inv p->x (kk p) (st p) fun e k' σ'=>match e with
 | .normal=>∃p',Le T σ' (st p')/\inv p'/\kk p'=k'/\m p'<m p
 |e=>Q e k' σ'):bX4 T x k σ Q:=⟨A,st,kk,inv,m,⟨p0,h0,h1,hk⟩,h⟩
theorem dE2{items:List (List V)}{l k:Nat}{xs:List V}{A B:Prop}(h1:items[k]? =some xs)(h2:bM xs)(hA:A)(hB:B):dC9 items l l k xs A B:=⟨rfl,h1,h2,hA,hB⟩
end
end Go.Ab
