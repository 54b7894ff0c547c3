/-
  From one state to a weaker one: what a loop or a cut keeps.
-/
import Derived.Test.YtdjgbagnajikeaaGreatDoorA13
import Derived.KernelRfl
set_option linter.unusedVariables false
set_option linter.unusedSimpArgs false
noncomputable section
namespace Go.Ab
def dU6(u' u:Value):Prop:=
 match u with
 | .int k n=>match u' with| .int k' n'=>k'=k/\n'=n|_=>False
 | .bool b=>match u' with| .bool b'=>b'=b|_=>False
 |u=>u'=u
def wk1(ar r:Nat->Option AE)(x y:V):Prop:=
 match y with
 | .bot=>True
 | .lit u=>match x with| .lit u'=>dU6 u' u|_=>False
 | .sl l=>match x with
   | .sl l'=>l'=l
   | .cap l'=>l'=l
   | .lit (.slice none 0 0)=>l=[]
   | .arr k g=>match ar k with
     |some en=>match en.kind with
      | .frz=>en.gen=g/\en.l=l
      |_=>False
     |none=>False
   |_=>False
 | .arr k g=>match x with
   | .arr k' g'=>k'=k/\g'=g
   | .lit (.slice none 0 0)=>match ar k with
     |none=>match r k with
      |some en=>en.gen=g
      |none=>False
     |some _=>False
   |_=>False
 | .box i o=>match x with| .box i' o'=>i'=i/\o'=o|_=>False
 | .cap l=>match x with| .cap l'=>l'=l| .lit (.slice none 0 0)=>l=[] |_=>False
 | .fp l=>match x with| .fp l'=>l'=l|_=>False
 | .fn g l=>match x with| .fn g' l'=>g'=g/\l'=l|_=>False
 | .ae k g z i o=>match x with| .ae k' g' z' i' o'=>k'=k/\g'=g/\z'=z/\i'=i/\o'=o|_=>False
 |_=>False
def wkL(ar r:Nat->Option AE)(ys:List V):List V->Prop:=
 List.rec (motive:=fun _=>List V->Prop) (fun xs=>match xs with| [] =>True|_::_=>False)
  (fun y _ ih xs=>match xs with|x::xr=>wk1 ar r x y/\ih xr| [] =>False) ys
def wkV(ar r:Nat->Option AE)(x y:V):Prop:=
 match y with
 | .agg ys=>match x with| .agg xs=>wkL ar r ys xs|_=>False
 |y=>wk1 ar r x y
def bX7(a b:AK):Prop:=
 match b with
 | .own=>match a with| .own=>True|_=>False
 | .ap=>match a with| .own=>True| .ap=>True|_=>False
 | .frz=>match a with| .frz=>True|_=>False
 | .dead=>match a with| .dead=>True|_=>False
def wkAE(T:Tab)(o:Option AE)(en:AE):Prop:=
 match o with
 |some en0=>en0.gen=en.gen/\bX7 en0.kind en.kind/\en0.ty=en.ty/\en0.l=en.l
 |none=>bX7 .own en.kind/\en.l=[]/\Nat.blt en.ty (T.n en.ty)=true
def wfC1(b:Nat->Option (List V))(x:V):Prop:=
 match x with
 | .box i _=>match b i with|some _=>True|none=>False
 | .fp _=>True
 | .lit _=>True
 | .own _ [] =>True
 | .ap _ _=>True
 | .sl _=>True
 |_=>False
def wfC(b:Nat->Option (List V))(l:List V):Prop:=List.rec (motive:=fun _=>Prop) True (fun x _ ih=>wfC1 b x/\ih) l
def wf1(b:Nat->Option (List V))(r:Nat->Option AE)(x:V):Prop:=
 match x with
 | .box i _=>match b i with|some _=>True|none=>False
 | .arr k g=>match r k with|some en=>g<=en.gen|none=>False
 | .ae k g _ _ _=>match r k with|some en=>g<=en.gen|none=>False
 | .fn _ l=>wfC b l
 |_=>True
def wfL(b:Nat->Option (List V))(r:Nat->Option AE)(l:List V):Prop:=List.rec (motive:=fun _=>Prop) True (fun x _ ih=>wf1 b r x/\ih) l
def wfV(b:Nat->Option (List V))(r:Nat->Option AE)(x:V):Prop:=
 match x with
 | .agg cs=>wfL b r cs
 |x=>wf1 b r x
def wkE(σ:St)(b:Nat->Option (List V))(r:Nat->Option AE)(e:List (Nat×V)):Prop:=
 List.rec (motive:=fun _=>Prop) True (fun p _ ih=>(wkV σ.ar r (σ.env p.1) p.2/\wfV b r p.2)/\ih) e
def wkB(σ:St)(b:Nat->Option (List V))(r:Nat->Option AE)(l:List (Nat×List V)):Prop:=
 List.rec (motive:=fun _=>Prop) True (fun p _ ih=>(match σ.bx p.1 with|some cs=>wkL σ.ar r p.2 cs/\wfL b r p.2|none=>False)/\ih) l
def wkA(T:Tab)(σ:St)(l:List (Nat×AE)):Prop:=
 List.rec (motive:=fun _=>Prop) True (fun p _ ih=>wkAE T (σ.ar p.1) p.2/\ih) l
theorem eJ6{u' u:Value}(h:dU6 u' u):u'=u:=by
 unfold dU6 at h;split at h
 ·split at h
  ·obtain⟨rfl,rfl⟩:=h;rfl
  ·exact h.elim
 ·split at h
  ·subst h;rfl
  ·exact h.elim
 ·exact h
section
variable{T:Tab}{Φ:Fr}{σ:St}{a:Act}{w:World}{G:Gh}{b:Nat->Option (List V)}{r:Nat->Option AE}
def xI(σ:St)(G:Gh):Gh:={G with av:=fun k g=>match σ.ar k with|none=> .slice none 0 0|some _=>G.av k g}
theorem bD1(σ:St)(w:World)(G:Gh):Keep w w G (xI σ G):=⟨fun _ h=>h,fun _ _=>rfl⟩
theorem eB6{k g:Nat}(h:σ.hasA k g):(xI σ G).av k g=G.av k g:=by
 obtain⟨en,h,_⟩:=h;simp[xI,h]
theorem eX8{τ:St}{p:Nat->Prop}{q:Nat->Nat->Prop}{l:List V}:wfC τ.bx l->V.okL p q l->V.okL τ.hasB τ.hasA l:=by
 induction l with
 |nil=>intro _ _;simp only[V.okL]
 |cons x r ih=>
  intro h hok;obtain⟨h1,h2⟩:wfC1 τ.bx x/\wfC τ.bx r:=h;simp only[V.okL]at hok⊢;refine⟨?_,ih h2 hok.2⟩;have hx:=hok.1;unfold wfC1 at h1;split at h1
  ·split at h1
   ·rename_i cs hcs;simp only[V.ok];exact⟨cs,hcs⟩
   ·exact h1.elim
  ·simp only[V.ok]at hx⊢;exact hx
  ·simp only[V.ok]
  ·simp only[V.ok,V.okL]
  ·simp only[V.ok]at hx⊢;exact hx
  ·simp only[V.ok]at hx⊢;exact hx
  ·exact h1.elim
theorem aG3(inv:Inv T Φ σ a w G){v:Value}{x y:V}(hx:Rv w G v x)(hok:x.ok σ.hasB σ.hasA)(h:wk1 σ.ar r x y)(hw:wf1 b r y)(τ:St)(hb:τ.bx=b)(hr:τ.ar=r):
 Rv w (xI σ G) v y/\y.ok τ.hasB τ.hasA:=by
 have hx':Rv w (xI σ G) v x:=hx.keep (bD1 σ w G) hok (fun _ _=>rfl) (fun k g h=>eB6 h);subst hb hr;unfold wk1 at h;split at h
 ·exact⟨.bot v,Bl⟩
 ·split at h
  ·cases eJ6 h;exact⟨hx',Bl⟩
  ·exact h.elim
 ·split at h
  ·subst h;exact⟨hx',Cj⟩
  ·subst h;exact⟨hx'.wK,Cj⟩
  ·subst h
   have:=hx.bH;subst this;exact⟨.slN,Dz⟩
  ·split at h
   ·rename_i k g _ en hen
    split at h
    ·rename_i hkd
     obtain⟨rfl,rfl⟩:=h;have ha:=inv.arr k en hen;unfold gW at ha;rw[hkd]at ha;have hp:=inv.wfA k en hen
     have hps:(V.sl en.l).pure:=Ar;have hv:=hx.oQ
     rw[hv];exact⟨(ha:Rv w G _ _).aW (bD1 σ w G) hps,by simp only[V.ok];exact hp⟩
    ·exact h.elim
   ·exact h.elim
  ·exact h.elim
 ·rename_i k g
  have hwr:τ.hasA k g:=J6;split at h
  ·obtain⟨rfl,rfl⟩:=h
   exact⟨hx',Fh⟩
  ·split at h
   ·rename_i hnone
    split at h
    ·have hv:=hx.bH
     subst hv;have e:(xI σ G).av k g= .slice none 0 0:=by simp[xI,hnone]
     rw[<-e];exact⟨.arr k g (by rw[e];rfl),Fh⟩
    ·exact h.elim
   ·exact h.elim
  ·exact h.elim
 ·split at h
  ·obtain⟨rfl,rfl⟩:=h
   refine⟨hx',?_⟩;unfold wf1 at hw;simp only at hw;split at hw
   ·rename_i cs hcs;simp only[V.ok];exact⟨cs,hcs⟩
   ·exact hw.elim
  ·exact h.elim
 ·split at h
  ·subst h;exact⟨hx',Cj⟩
  ·subst h
   have:=hx.bH;subst this;exact⟨.capN,Dz⟩
  ·exact h.elim
 ·split at h
  ·subst h;exact⟨hx',Cj⟩
  ·exact h.elim
 ·split at h
  ·obtain⟨rfl,rfl⟩:=h
   refine⟨hx',?_⟩;simp only[V.ok]at hok⊢;exact eX8 (τ:=τ) hw hok
  ·exact h.elim
 ·rename_i k g z i o
  have hwr:τ.hasA k g:=J6;split at h
  ·obtain⟨rfl,rfl,rfl,rfl,rfl⟩:=h
   exact⟨hx',Fh⟩
  ·exact h.elim
 ·exact h.elim
theorem bL3{ar:Nat->Option AE}{ys:List V}:∀ {xs:List V},wkL ar r ys xs->wfL b r ys->xs.length=ys.length/\∀(i:Nat) x y,xs[i]? =some x->ys[i]? =some y->wk1 ar r x y/\wf1 b r y:=by
 induction ys with
 |nil=>
  intro xs h _
  cases xs with
  |nil=>exact⟨rfl,fun i x y hx=>Gt⟩
  |cons x xr=>exact(h:False).elim
 |cons y yr ih=>
  intro xs h hw
  cases xs with
  |nil=>exact(h:False).elim
  |cons x xr=>
   obtain⟨h1,h2⟩:=(h:wk1 ar r x y/\wkL ar r yr xr);obtain⟨w1,w2⟩:=(hw:wf1 b r y/\wfL b r yr);obtain⟨q1,q2⟩:=ih h2 w2;refine⟨by simp[q1],fun i x' y' hx hy=>?_⟩
   cases i with
   |zero=>simp at hx hy;subst hx hy;exact⟨h1,w1⟩
   |succ i=>simp at hx hy;exact q2 i x' y' hx hy
theorem bT8(inv:Inv T Φ σ a w G){v:Value}{x y:V}(hx:Rv w G v x)(hok:x.ok σ.hasB σ.hasA)(h:wkV σ.ar r x y)(hw:wfV b r y)(τ:St)(hb:τ.bx=b)(hr:τ.ar=r):
 Rv w (xI σ G) v y/\y.ok τ.hasB τ.hasA:=by
 unfold wkV at h;split at h
 ·rename_i ys
  split at h
  ·rename_i xs
   obtain⟨q1,q2⟩:=bL3 h hw;obtain⟨cs,rfl,hl,ho,hrel⟩:=hx.zV;simp only[V.ok]at hok
   have each:∀(i:Nat) c y,cs[i]? =some c->ys[i]? =some y->Rv w (xI σ G) c y/\y.ok τ.hasB τ.hasA:=by
    intro i c y hc hy;have hi:i<xs.length:=En;have hxi:xs[i]? =some xs[i] :=G6
    obtain⟨k1,k2⟩:=q2 i xs[i] y hxi hy;exact aG3 inv (hrel i c xs[i] hc hxi) (aH.1 hok _ (List.getElem_mem hi)) k1 k2 τ hb hr
   refine⟨.agg cs ys Aa ho fun i c y hc hy=>(each i c y hc hy).1,?_⟩;simp only[V.ok];rw[aH];intro y hy;obtain⟨i,hi⟩:=List.getElem?_of_mem hy;have hlt:i<cs.size:=by rw[hl,q1];exact(List.getElem?_eq_some_iff.1 hi).1
   exact(each i cs[i] y GI hi).2
  ·exact h.elim
 ·rename_i hna
  refine aG3 inv hx hok h ?_ τ hb hr;unfold wfV at hw;split at hw
  ·exact(hna _ rfl).elim
  ·exact hw
theorem dT6{α:Type}{dflt:α}{l:List (Nat×α)}(s:Nat):ofL dflt l s=dflt\/∃p∈l,p.1=s/\ofL dflt l s=p.2:=by
 induction l with
 |nil=>exact .inl rfl
 |cons p q ih=>
  have hd:ofL dflt (p::q) s=cond (Nat.beq s p.1) p.2 (ofL dflt q s):=rfl;rw[hd]
  cases hb:Nat.beq s p.1 with
  |true=>exact .inr ⟨p,Ae,(Nat.eq_of_beq_eq_true hb).symm,rfl⟩
  |false=>
   rcases ih with h|⟨p',hp,h1,h2⟩
   ·exact .inl h
   ·exact .inr ⟨p',by simp[hp],h1,h2⟩
theorem aF5{α:Type}{l:List (Nat×α)}{s:Nat}{x:α}(h:ofO l s=some x):∃p∈l,p.1=s/\p.2=x:=by
 induction l with
 |nil=>cases h
 |cons p q ih=>
  have hd:ofO (p::q) s=cond (Nat.beq s p.1) (some p.2) (ofO q s):=rfl;rw[hd]at h
  cases hb:Nat.beq s p.1 with
  |true=>rw[hb]at h;exact⟨p,Ae,(Nat.eq_of_beq_eq_true hb).symm,D8⟩
  |false=>
   rw[hb]at h;obtain⟨p',hp,h1,h2⟩:=ih h;exact⟨p',by simp[hp],h1,h2⟩
theorem cP0{e:List (Nat×V)}(h:wkE σ b r e):∀p∈e,wkV σ.ar r (σ.env p.1) p.2/\wfV b r p.2:=by
 induction e with
 |nil=>intro p hp;cases hp
 |cons q l ih=>
  obtain⟨h1,h2⟩:=(h:(wkV σ.ar r (σ.env q.1) q.2/\wfV b r q.2)/\wkE σ b r l);intro p hp;exact Oj
theorem cF4{l:List (Nat×List V)}(h:wkB σ b r l):∀p∈l,∃cs,σ.bx p.1=some cs/\wkL σ.ar r p.2 cs/\wfL b r p.2:=by
 induction l with
 |nil=>intro p hp;cases hp
 |cons q l ih=>
  obtain⟨h1,h2⟩:=(h:(match σ.bx q.1 with|some cs=>wkL σ.ar r q.2 cs/\wfL b r q.2|none=>False)/\wkB σ b r l)
  intro p hp;rcases List.mem_cons.1 hp with rfl|hp
  ·split at h1
   ·rename_i cs hcs;exact⟨cs,hcs,h1⟩
   ·exact h1.elim
  ·exact ih h2 p hp
theorem cO0{l:List (Nat×AE)}(h:wkA T σ l):∀p∈l,wkAE T (σ.ar p.1) p.2:=by
 induction l with
 |nil=>intro p hp;cases hp
 |cons q l ih=>
  obtain⟨h1,h2⟩:=(h:wkAE T (σ.ar q.1) q.2/\wkA T σ l);intro p hp;exact Oj
theorem cR3(inv:Inv T Φ σ a w G){k:Nat}{en0 en:AE}(h0:σ.ar k=some en0)(h1:en0.gen=en.gen)(h2:bX7 en0.kind en.kind)(h3:en0.ty=en.ty)(h4:en0.l=en.l):gW T w G k en:=by
 have ha:=inv.arr k en0 h0;obtain⟨g0,k0,t0,l0⟩:=en0;obtain⟨g,kd,t,l⟩:=en;simp only at h1 h2 h3 h4;subst h1 h3 h4;cases kd<;>cases k0<;>simp only[bX7]at h2<;>first|exact h2.elim|exact trivial|exact ha|skip
 unfold gW at ha⊢;exact⟨ha.1, .inl ha.2⟩
def has8(o p:Option AE):Prop:=match o with|none=>True|some _=>(match p with|some _=>True|none=>False)
def aN5(o p:Option (List V)):Prop:=match o with|none=>True|some _=>(match p with|some _=>True|none=>False)
def wk8b(ar r:Nat->Option (List V)):Prop:=aN5 (ar 100000) (r 100000)/\aN5 (ar 100001) (r 100001)/\aN5 (ar 100002) (r 100002)/\aN5 (ar 100003) (r 100003)/\aN5 (ar 100004) (r 100004)/\aN5 (ar 100005) (r 100005)/\aN5 (ar 100006) (r 100006)/\aN5 (ar 100007) (r 100007)
theorem dS5{ar r:Nat->Option (List V)}(h:wk8b ar r){j:Nat}(hj:100000<=j/\j<100008){en:List V}(he:ar j=some en):∃en',r j=some en':=by
 have key:∀ {o p:Option (List V)},aN5 o p->o=some en->∃en',p=some en':=by
  intro o p h ho;exact NU
 obtain⟨h0,h1,h2,h3,h4,h5,h6,h7⟩:=h;have hj':j=100000\/j=100001\/j=100002\/j=100003\/j=100004\/j=100005\/j=100006\/j=100007:=Aa;rcases hj' with rfl|rfl|rfl|rfl|rfl|rfl|rfl|rfl
 ·exact key h0 he
 ·exact key h1 he
 ·exact key h2 he
 ·exact key h3 he
 ·exact key h4 he
 ·exact key h5 he
 ·exact key h6 he
 ·exact key h7 he
def wk8(ar r:Nat->Option AE):Prop:=has8 (ar 0) (r 0)/\has8 (ar 1) (r 1)/\has8 (ar 2) (r 2)/\has8 (ar 3) (r 3)/\has8 (ar 4) (r 4)/\has8 (ar 5) (r 5)/\has8 (ar 6) (r 6)/\has8 (ar 7) (r 7)
theorem dT9{ar r:Nat->Option AE}(h:wk8 ar r){j:Nat}(hj:j<8){en:AE}(he:ar j=some en):∃en',r j=some en':=by
 have key:∀ {o p:Option AE},has8 o p->o=some en->∃en',p=some en':=by
  intro o p h ho;exact NU
 obtain⟨h0,h1,h2,h3,h4,h5,h6,h7⟩:=h
 match j,hj with
 |0,_=>exact key h0 he
 |1,_=>exact key h1 he
 |2,_=>exact key h2 he
 |3,_=>exact key h3 he
 |4,_=>exact key h4 he
 |5,_=>exact key h5 he
 |6,_=>exact key h6 he
 |7,_=>exact key h7 he
theorem dV{e:List (Nat×V)}{lb:List (Nat×List V)}{lr:List (Nat×AE)}(h8:wk8 σ.ar (ofO lr)/\wk8b σ.bx (ofO lb))(hA:wkA T σ lr)(hB:wkB σ (ofO lb) (ofO lr) lb)(hE:wkE σ (ofO lb) (ofO lr) e):Le T σ (mkSt e lb lr):=by
 unfold Le;intro Φ a w G inv;have bot:∀s,(mkSt e lb lr).env s= .bot\/∃p∈e,p.1=s/\(mkSt e lb lr).env s=p.2:=fun s=>dT6 s;have hav:∀k g,σ.hasA k g->(xI σ G).av k g=G.av k g:=fun k g h=>eB6 h
 refine⟨xI σ G,?_⟩;refine {nd:=inv.nd,kp:=inv.kp,sz:=inv.sz,env:= ?_,wfE:= ?_,box:= ?_,wfB:= ?_,arr:= ?_,wfA:= ?_,tag:=inv.tag,mineB:=inv.mineB,mineA:=inv.mineA,fzm:=inv.fzm,F0:=inv.F0,lay:=inv.lay,frame:=inv.frame,size:=inv.size,os:=inv.os,tape:=inv.tape,output:=inv.output,args:=fun j v h=>⟨(hav j 0 ⟨_,(inv.args j v h).2.2.choose_spec,Nat.zero_le _⟩).trans (inv.args j v h).1,(inv.args j v h).2.1,dT9 h8.1 (inv.args j v h).2.1 (inv.args j v h).2.2.choose_spec⟩,argb:=fun i bk h=>⟨(inv.argb i bk h).1,(inv.argb i bk h).2.1,dS5 h8.2 (inv.argb i bk h).2.1 (inv.argb i bk h).2.2.choose_spec⟩}
 ·intro s
  rcases bot s with h|⟨p,hp,rfl,h⟩
  ·rw[h];exact .bot _
  ·rw[h]
   obtain⟨h1,h2⟩:=cP0 hE p hp;exact(bT8 inv (inv.env p.1) (inv.wfE p.1) h1 h2 (mkSt e lb lr) rfl rfl).1
 ·intro s
  rcases bot s with h|⟨p,hp,rfl,h⟩
  ·rw[h];simp only[V.ok]
  ·rw[h]
   obtain⟨h1,h2⟩:=cP0 hE p hp;exact(bT8 inv (inv.env p.1) (inv.wfE p.1) h1 h2 (mkSt e lb lr) rfl rfl).2
 ·intro i cs hi
  obtain⟨p,hp,rfl,rfl⟩:=aF5 hi;obtain⟨cs0,hcs0,h1,h2⟩:=cF4 hB p hp;obtain⟨c,t,g1,g2,g3⟩:=inv.box p.1 cs0 hcs0;obtain⟨q1,q2⟩:=bL3 h1 h2;refine⟨c,t,g1,⟨by rw[g2.len,q1],g2.one,fun i v y hv hy=>?_⟩,g3⟩
  have hlt:i<cs0.length:=En;have hxi:cs0[i]? =some cs0[i] :=GI
  obtain⟨k1,k2⟩:=q2 i cs0[i] y hxi hy;exact(aG3 inv (g2.rel i v cs0[i] hv hxi) (aH.1 (inv.wfB p.1 cs0 hcs0) _ (List.getElem_mem hlt)) k1 k2 (mkSt e lb lr) rfl rfl).1
 ·intro i cs hi
  obtain⟨p,hp,rfl,rfl⟩:=aF5 hi;obtain⟨cs0,hcs0,h1,h2⟩:=cF4 hB p hp;obtain⟨c,t,g1,g2,g3⟩:=inv.box p.1 cs0 hcs0;obtain⟨q1,q2⟩:=bL3 h1 h2;rw[aH];intro y hy;obtain⟨i,hi'⟩:=List.getElem?_of_mem hy;have hlt:i<cs0.length:=by rw[q1];exact(List.getElem?_eq_some_iff.1 hi').1
  have hxi:cs0[i]? =some cs0[i] :=GI;have hlc:i<c.toList.length:=by rw[g2.len];exact hlt
  obtain⟨k1,k2⟩:=q2 i cs0[i] y hxi hi';exact(aG3 inv (g2.rel i c.toList[i] cs0[i] Ae hxi) (aH.1 (inv.wfB p.1 cs0 hcs0) _ (List.getElem_mem hlt)) k1 k2 (mkSt e lb lr) rfl rfl).2
 ·intro k en hk
  obtain⟨p,hp,rfl,rfl⟩:=aF5 hk;have h:=cO0 hA p hp;unfold wkAE at h;split at h
  ·rename_i en0 h0
   have hok:=cR3 inv h0 h.1 h.2.1 h.2.2.1 h.2.2.2;refine hok.keep (bD1 σ w G) ?_ ?_ (fun b hb=>⟨hb,rfl⟩)
   ·rw[<-h.2.2.2];exact inv.wfA _ _ h0
   ·exact hav _ _ ⟨en0,h0,Aa⟩
  ·rename_i h0
   obtain⟨h1,h2,h3⟩:=h;have hnil:(xI σ G).av p.1 p.2.gen= .slice none 0 0:=by simp[xI,h0]
   have hlt:=blt h3;unfold gW;split
   ·rw[h2];trivial
   ·rename_i hkd;rw[hkd]at h1;exact h1.elim
   ·rw[hnil,h2];exact⟨hlt, .inl ⟨.inl rfl,rfl⟩⟩
   ·rw[hnil,h2];exact⟨hlt, .inl (.inl ⟨.inl rfl,rfl⟩)⟩
 ·intro k en hk
  obtain⟨p,hp,rfl,rfl⟩:=aF5 hk;have h:=cO0 hA p hp;unfold wkAE at h;split at h
  ·rename_i en0 h0
   rw[<-h.2.2.2];exact inv.wfA _ _ h0
  ·rw[h.2.1];simp only[V.okL]
end
section
variable{T:Tab}{P:Program}{Φ:Fr}{σ:St}{a:Act}{w w':World}{G G':Gh}{K:VK}{o:Oper}{d:Nat}
structure retN(T:Tab)(σ:St)(rs:List ResultVar)(cells:List V):Prop where
 out:aH3 T σ rs fun xs=>match xs with
  | [.box i 0] =>match σ.bx i with
    |some cs=>iQ T σ.ar cells cs/\iR cs cells=true/\allR (fun y=> !linear y) cells=true
    |none=>False
  |_=>False
def fnVCN(T:Tab)(P:Program)(fn:Func)(ys:List V)(cells:List V):Prop:=
 match fn.body with
 |some c=>nH T P fn.ntmps c (uD ys) fun e σ=>match e with
  | .normal=>retN T σ fn.results.toList cells
  | .ret=>retN T σ fn.results.toList cells
  |_=>False
 |none=>False
end
section
variable{T:Tab}{P:Program}{σ:St}
theorem eY7{x y:aA2}{Q:Exit->St->Prop}(h:x σ fun e σ'=>match e with
 | .normal=>y σ' Q
 |e=>Q e σ'):dG2 T x y σ Q:=by refine⟨?_⟩;exact .inl h
theorem dJ4{x y:aA2}{Q:Exit->St->Prop}(A:Type)(st:A->St)(inv:A->Prop)(h:x σ fun e σ'=>match e with
 | .normal=>∃p,Le T σ' (st p)/\inv p
 |e=>Q e σ')(h2:∀p,inv p->y (st p) Q):dG2 T x y σ Q:=by refine⟨?_⟩;exact .inr ⟨⟨A,st,inv,fun _=>0⟩,h,h2⟩
theorem lD{x:aA2}{Q:Exit->St->Prop}{A:Type}(st:A->St)(inv:A->Prop)(m:A->Nat)(p0:A)(h0:Le T σ (st p0))(h1:inv p0)(h:∀p,inv p->x (st p) fun e σ'=>match e with
 | .normal=>∃p',Le T σ' (st p')/\inv p'/\m p'<m p
 |e=>Q e σ'):bI0 T x σ Q:=by refine⟨?_⟩;exact⟨⟨A,st,inv,m⟩,⟨p0,h0,h1⟩,h⟩
theorem jU{b:Bool}{A B:Prop}(h1:b=true->A)(h2:b=false->B):branch b A B:=by
 cases b
 ·exact h2 rfl
 ·exact h1 rfl
theorem dC8{a b:Int}:ltB a b=true↔a<b:=by unfold ltB;simp
theorem eU6{a b:Int}:ltB a b=false↔b<=a:=by unfold ltB;simp
theorem bV6{a b:Int}:leB a b=true↔a<=b:=by unfold leB;simp
theorem eU7{a b:Int}:leB a b=false↔b<a:=by unfold leB;simp
theorem aA1{a b:Int}:eqB a b=true↔a=b:=by unfold eqB;simp
theorem dY0{a b:Int}:eqB a b=false↔a≠b:=by unfold eqB;simp
theorem eQ7(a b:Bool):andB a b=(a&&b):=by unfold andB;rfl
theorem br_lt{a b:Int}{A B:Prop}(h1:a<b->A)(h2:b<=a->B):branch (ltB a b) A B:=jU (fun h=>h1 (dC8.1 h)) (fun h=>h2 (eU6.1 h))
theorem br_le{a b:Int}{A B:Prop}(h1:a<=b->A)(h2:b<a->B):branch (leB a b) A B:=jU (fun h=>h1 (bV6.1 h)) (fun h=>h2 (eU7.1 h))
theorem eV7{a b:Int}{A B:Prop}(h1:a=b->A)(h2:a≠b->B):branch (eqB a b) A B:=jU (fun h=>h1 (aA1.1 h)) (fun h=>h2 (dY0.1 h))
theorem eZ2{b:Bool}{A B:Prop}(h:branch b B A):branch (!b) A B:=by cases b<;>exact h
theorem mG(a b:Int):maxI a b=max a b:=by unfold maxI;split<;>omega
theorem lH(a b:Int):minI a b=min a b:=by unfold minI;split<;>omega
theorem eH4{n:Int}{K:Int->Prop}(h: -9223372036854775808<=n/\n<=9223372036854775807)(hk:K n):arith .i64 n K:=by
 refine⟨?_⟩;rw[show IntKind.wrap .i64 n=n from IntWalk.i64_in _ Aa];exact hk
theorem fU{p K:Prop}(h:p)(hk:K):need p K:=by refine⟨?_⟩;exact⟨h,hk⟩
theorem eQ9{α:Type}{f:α->V}{l:List α}{i:Nat}{K:V->Prop}(hi:i<l.length)(h:∀x,l[i]? =some x->K (f x)):idx (l.map f) i K:=by
 refine⟨?_⟩;exact⟨f l[i],G6,h _ G6⟩
theorem dE3{l:List V}{i:Nat}{K:V->Prop}(x:V)(h:l[i]? =some x)(hk:K x):idx l i K:=by refine⟨?_⟩;exact⟨x,h,hk⟩
theorem eZ1{T:Tab}{env:Nat->V}{ops:List Oper}{K:List (Nat×List Nat)->Prop}(h:cP6 T ops=true)(hk:K []):aC9 T env ops K:=by refine⟨?_⟩;exact⟨[],[],trivial,h,hk⟩
theorem cC0{T:Tab}{env:Nat->V}{ops:List Oper}{K:List (Nat×List Nat)->Prop}(cl:List (Nat×Nat))(h0:cO4 cl env)(h:oO T cl [] ops=true)(hk:K []):aC9 T env ops K:=by refine⟨?_⟩;exact⟨cl,[],h0,h,hk⟩
theorem bW8{T:Tab}{env:Nat->V}{ops:List Oper}{K:List (Nat×List Nat)->Prop}(cl:List (Nat×Nat))(hv:List (Nat×List Nat))(h0:cO4 cl env)(h:oO T cl hv ops=true)(hk:K hv):aC9 T env ops K:=by refine⟨?_⟩;exact⟨cl,hv,h0,h,hk⟩
theorem aS5{light:Md}{d:Nat}{f:FuncId}{xs ys:List V}{r:V}{K:VK}(hs:Spec T P f ys r)(lend:Bool)(hg:iQ T σ.ar ys xs)(hc:sO light.light lend xs ys r=true)
 (hk:zZ σ d (reuse σ (bD ys xs)) r fun v ms=>K v (appR (cond lend [] (aV σ (bK ys xs))) (appR (aX σ (bD ys xs)) ms))):kY T P light σ d f xs K:=by
 refine⟨.inl ?_⟩;exact⟨ys,r,lend,hg,hc,hs,hk⟩
theorem aQ2{d:Nat}{f:FuncId}{xs ys:List V}{r:V}{K:VK}{j k g:Nat}{e:TypeId}{l l':List V}(hs:bE5 T P f ys r j e l')(hy:ys[j]? =some (.own e l))(hx:xs[j]? =some (.arr k g))(hg:iQ T σ.ar ys xs)(hc:sO false false xs ys r=true)(hf:aH7 r=true)
 (hk:K r (appR (aV σ (bK ys xs)) (appR (aX σ (bD ys xs)) [.a k ⟨g, .own,e,l'⟩]))):kY T P .free σ d f xs K:=by
 refine⟨.inr (.inl ⟨rfl,ys,r,j,k,g,e,l,l',hg,hc,hs,hy,hx,hf,hk⟩)⟩
theorem fC9{light:Md}{d:Nat}{f:FuncId}{xs ys:List V}{bs bs':List (List V)}{r:V}{K:VK}(hs:aU2 T P f ys bs r bs')(is:List Nat)(hm:light.may d is ((xs,ys)::eU σ.bx bs is)=true)(hg:xM T σ.ar is ((xs,ys)::eU σ.bx bs is))(hc:zA σ.bx ((xs,ys)::eU σ.bx bs is) is bs r=true)
 (hk:aX2 σ.bx σ.ar is (ownG ((xs,ys)::eU σ.bx bs is)) d r bs' fun v ms=>K v (appR (aV σ (mF ((xs,ys)::eU σ.bx bs is))) (appR (aX σ (ownG ((xs,ys)::eU σ.bx bs is))) ms))):kY T P light σ d f xs K:=by
 refine⟨.inr (.inr (.inl ⟨ys,is,bs,r,bs',hm,hg,hc,hs,hk⟩))⟩
theorem fA7{rs:List ResultVar}{r:V}{bs:List (List V)}(h:aH3 T σ rs fun xs=>match xs with
 | [x] =>xM T σ.ar (iP bs 0) (([x],[r])::eU σ.bx bs (iP bs 0))/\aT2 σ.bx (([x],[r])::eU σ.bx bs (iP bs 0)) (iP bs 0)=true/\(∀rs,r≠ .tup rs)
 |xs=>∃ys,r= .tup ys/\xM T σ.ar (iP bs 0) ((xs,ys)::eU σ.bx bs (iP bs 0))/\aT2 σ.bx ((xs,ys)::eU σ.bx bs (iP bs 0)) (iP bs 0)=true):retB T σ rs r bs:=⟨h⟩
theorem cA7{rs:List ResultVar}{r:V}{j:Nat}{e:TypeId}{l:List V}(h:aH3 T σ rs fun xs=>match xs with
 | [x] =>iQ T σ.ar [r, .own e l] [x, .arr j 0]/\iR [x, .arr j 0] [r, .own e l] =true/\aH7 r=true/\(∀rs,r≠ .tup rs)
 |xs=>∃ys,r= .tup ys/\iQ T σ.ar (appR ys [.own e l]) (appR xs [.arr j 0])/\iR (appR xs [.arr j 0]) (appR ys [.own e l])=true):dC6 T σ rs r j e l:=⟨h⟩
theorem ret_i{rs:List ResultVar}{r:V}(h:aH3 T σ rs fun xs=>match xs with
 | [x] =>iQ T σ.ar [r] [x]/\iR [x] [r] =true/\(∀rs,r≠ .tup rs)
 |xs=>∃ys,r= .tup ys/\iQ T σ.ar ys xs/\iR xs ys=true):dF3 T σ rs r:=by refine⟨.inl ?_⟩;exact h
theorem aP{ar:Nat->Option AE}{u u':Value}(h:u'=u):iQ T ar [.lit u] [.lit u']/\iR [.lit u'] [.lit u] =true/\(∀rs,(V.lit u)≠ .tup rs):=⟨⟨h,trivial⟩,rfl,fun _ h=>Ag⟩
theorem aG{ar:Nat->Option AE}{k:IntKind}{n n':Int}(h:n'=n):iQ T ar [.lit (.int k n)] [.lit (.int k n')]/\iR [.lit (.int k n')] [.lit (.int k n)] =true/\(∀rs,(V.lit (.int k n))≠ .tup rs):=aP (by rw[h])
theorem aK{ar:Nat->Option AE}{n n':Bool}(h:n'=n):iQ T ar [.lit (.bool n)] [.lit (.bool n')]/\iR [.lit (.bool n')] [.lit (.bool n)] =true/\(∀rs,(V.lit (.bool n))≠ .tup rs):=aP (by rw[h])
theorem eY0{en:AE}{g:Nat}{K:Prop}(h1:en.gen=g)(h2:en.kind≠ .dead)(hk:K):need (en.gen=g/\en.kind≠ .dead) K:=fU ⟨h1,h2⟩ hk
theorem iH{en:AE}{g e bytes size:Nat}{xs:List V}{K:Prop}(h1:en.gen=g)(h2:en.kind= .own\/en.kind= .ap)(h3:en.ty=e)(hb:bytes<=10000)(h5:∀x∈xs,x.cells.length=size)(h4:en.l.length+xs.length<=1000000000)(hk:K):
 need (en.gen=g/\(en.kind= .own\/en.kind= .ap)/\en.ty=e/\(en.l.length+xs.length)*bytes<=140737488355328/\en.l.length+xs.length<=140737488355328/\∀x∈xs,x.cells.length=size) K:=
 fU ⟨h1,h2,h3,Nat.le_trans (Nat.mul_le_mul h4 hb) Ah,Aa,h5⟩ hk
theorem gX{bytes size:Nat}{xs:List V}{K:Prop}(hb:bytes<=10000)(h5:∀x∈xs,x.cells.length=size)(h4:xs.length<=1000000000)(hk:K):
 need (xs.length*bytes<=140737488355328/\xs.length<=140737488355328/\∀x∈xs,x.cells.length=size) K:=
 fU ⟨Nat.le_trans (Nat.mul_le_mul h4 hb) Ah,Aa,h5⟩ hk
theorem dA{x:V}{n:Nat}(h:x.cells.length=n):∀y∈[x],y.cells.length=n:=fun y hy=>by cases List.mem_singleton.1 hy;exact h
theorem bytes_i{xs:List V}{K:List Int->Prop}(ns:List Int)(h:xs=ns.map (fun n=>V.lit (.int .u8 n)))(hk:K ns):aZ0 xs K:=by refine⟨?_⟩;exact⟨ns,h,hk⟩
theorem Le.trans{σ1 σ2 σ3:St}(h1:Le T σ1 σ2)(h2:Le T σ2 σ3):Le T σ1 σ3:=by
 unfold Le at*;intro Φ a w G inv;obtain⟨G1,i1⟩:=h1 Φ a w G inv;exact h2 Φ a w G1 i1
theorem eV6{es:List V}{s:Value}{z:V}{K:V->Prop}{v:V}(h:(jG s es).getD z=v)(k:K v):eG6 es s z K:=⟨by rw[h];exact k⟩
theorem eS1{f:Operand}{g:FuncId}{caps:List V}{ps wr:List Nat}{x y:aA2}{Q:Exit->St->Prop}(items:List (List V))(hs:aB0 T P g caps items)(hl:∀it∈items,it.length=ps.length){A:Type}(st:A->St)(inv:Nat->A->Prop)(p0:A)
 (h0:Le T σ (st p0))(h1:inv 0 p0)(hf:(st p0).ev f= .fn g caps)(h:∀k p it,inv k p->items[k]? =some it->x ⟨cM2 ps it (st p).env,(st p).bx,(st p).ar⟩ fun e σ1=>match e with
  | .normal=>y σ1 fun e σ2=>match e with
    | .normal=>∃p',Le T (sJ wr σ2) (st p')/\inv (k+1) p'
    | .ret=>Q .ret (sJ wr σ2)
    | .exit i=>Q (.exit i) (sJ wr σ2)
    |_=>False
  |_=>False)(he:∀p,inv items.length p->Q .normal (st p)):aO0 T P f g caps ps wr x y σ Q:=⟨items,hs,hl,A,st,inv,⟨p0,h0,h1,hf⟩,h,he⟩
theorem fB{k:Nat}{en:AE}(h:σ.ar k=some en)(hk:en.kind= .own\/en.kind= .ap):Le T σ (σ.apps [.a k ⟨en.gen, .frz,en.ty,en.l⟩]):=by
 unfold Le;intro Φ a w G inv;obtain⟨O',inv1,_,_⟩:=inv.freeze h hk;exact⟨_,inv1⟩
def aL5(k g:Nat)(l:List V)(x:V):V:=match x with
 | .arr j g'=>cond (Nat.beq j k) (cond (Nat.beq g' g) (.sl l) .bot) (.arr j g')
 |x=>x
def eE7(k g:Nat)(l:List V)(x:V):V:=match x with
 | .arr j g'=>cond (Nat.beq j k) (cond (Nat.beq g' g) (.sl l) .bot) (.arr j g')
 | .agg xs=> .agg (mapR (aL5 k g l) xs)
 |x=>x
def fD0(k:Nat)(en:AE)(σ:St):St:=⟨fun s=>eE7 k en.gen en.l (σ.env s),σ.bx,upd σ.ar k (some ⟨en.gen, .frz,en.ty,en.l⟩)⟩
theorem cM9{w:World}{G:Gh}{k g:Nat}{l:List V}{v:Value}{x:V}(hl:Rv w G (G.av k g) (.sl l))(h:Rv w G v x):Rv w G v (aL5 k g l x):=by
 unfold aL5;split
 ·exact Iq
 ·exact h
theorem cJ0{p:Nat->Prop}{q:Nat->Nat->Prop}{k g:Nat}{l:List V}{x:V}(hl:bM l)(h:x.ok p q):(aL5 k g l x).ok p q:=by
 unfold aL5;split
 ·rename_i j g'
  cases hj:Nat.beq j k with
  |false=>exact h
  |true=>
   cases hg:Nat.beq g' g with
   |false=>simp only[cond,V.ok]
   |true=>simp only[cond,V.ok];exact hl
 ·exact h
theorem eJ7{w:World}{G:Gh}{k g:Nat}{l:List V}{v:Value}{x:V}(hl:Rv w G (G.av k g) (.sl l))(h:Rv w G v x):Rv w G v (eE7 k g l x):=by
 cases x with
 |agg xs=>
  show Rv w G v (.agg (mapR (aL5 k g l) xs));rw[dU]
  cases h with
  |agg cs _ hl' ho hh=>
   refine .agg cs _ (by simp[hl']) ho (fun i c y hc hy=>?_)
   rw[List.getElem?_map]at hy
   cases hx:xs[i]? with
   |none=>rw[hx]at hy;cases hy
   |some z=>
    rw[hx]at hy;cases hy;exact cM9 hl (hh i c z hc hx)
 |arr j g'=>exact cM9 hl h
 |_=>exact h
theorem eG5{p:Nat->Prop}{q:Nat->Nat->Prop}{k g:Nat}{l:List V}{x:V}(hl:bM l)(h:x.ok p q):(eE7 k g l x).ok p q:=by
 cases x with
 |agg xs=>
  show(V.agg (mapR (aL5 k g l) xs)).ok p q;rw[dU];simp only[V.ok]at h⊢;refine aH.2 fun y hy=>?_;obtain⟨z,hz,rfl⟩:=List.mem_map.1 hy;exact cJ0 hl (aH.1 h z hz)
 |arr j g'=>exact cJ0 hl h
 |_=>exact h
theorem aZ8(k:Nat){en:AE}(h:σ.ar k=some en)(hk:en.kind= .own\/en.kind= .ap):Le T σ (fD0 k en σ):=by
 unfold Le;intro Φ a w G inv;obtain⟨O',inv1,_,_⟩:=inv.freeze h hk;have hp:=inv.wfA k en h;have har:Rv w {G with O:=O'} (G.av k en.gen) (.sl en.l):=inv1.arr k ⟨en.gen, .frz,en.ty,en.l⟩ (upd_same _ _ _)
 refine⟨_,{inv1 with env:=fun s=>?_,wfE:=fun s=>?_}⟩
 ·exact eJ7 har (inv1.env s)
 ·exact eG5 hp (inv1.wfE s)
def meltM(k g:Nat)(v:V)(x:V):V:=match x with
 | .arr j g'=>cond (Nat.beq j k) (cond (Nat.beq g' g) v .bot) (.arr j g')
 |x=>x
def meltMap(k g:Nat)(ty:TypeId)(v:V)(σ:St):St:=⟨fun s=>meltM k g v (σ.env s),fun i=>match σ.bx i with|none=>none|some l=>some (mapR (meltM k g v) l),upd σ.ar k (some ⟨g, .dead,ty,[]⟩)⟩
theorem meltM_rv{w:World}{G:Gh}{k g:Nat}{u:V}{v:Value}{x:V}(hl:Rv w G (G.av k g) u)(h:Rv w G v x):Rv w G v (meltM k g u x):=by
 unfold meltM;split
 ·exact Iq
 ·exact h
theorem meltM_ok{p:Nat->Prop}{q:Nat->Nat->Prop}{k g:Nat}{u:V}{x:V}(hl:u.pure)(h:x.ok p q):(meltM k g u x).ok p q:=by
 unfold meltM;split
 ·rename_i j g'
  cases hj:Nat.beq j k with
  |false=>exact h
  |true=>
   cases hg:Nat.beq g' g with
   |false=>simp only[cond,V.ok]
   |true=>exact hl.ok _ _
 ·exact h
theorem le_frzm(k:Nat){g:Nat}{ty:TypeId}{es:List V}(kz:Value)(h:σ.ar k=some ⟨g, .dead,ty, .bot::es⟩)(hz:cD3 (T.row (T.row ty).alen).kd kz=true):Le T σ (meltMap k g ty (V.mapV kz es) σ):=by
 unfold Le;intro Φ a w G inv;have hok:=inv.arr k _ h;have hp:bM es:=by have:=inv.wfA k _ h;simp only[bM,V.okL]at this;exact this.2
 have hd:=lit_key hz;obtain⟨b,ents,clock,q1,q2,q3,q4,q5⟩:=(hok:bL6 _ w G k _ es);rw[<-hd]at q4 q5
 let O':Nat->Tag:=fun b=>match G.O b with| .ar j=>if j=k then .fz else .ar j|t=>t
 have hO1:∀b,G.O b≠ .ar k->O' b=G.O b:=by
  intro b hb;show(match G.O b with| .ar j=>if j=k then Tag.fz else .ar j|t=>t)=_
  cases hgo:G.O b with
  |ar j=>have:j≠k:=by rintro rfl;exact hb hgo
         simp[this]
  |_=>rfl
 have hO2:∀b,G.O b= .ar k->O' b= .fz:=by
  intro b hb;exact NM
 have hkp:Keep w w G {G with O:=O'}:=⟨fun b hb=>(hO1 b Au).trans hb,fun _ _=>rfl⟩
 have inv1:Inv T Φ (σ.apps [.a k ⟨g, .dead,ty,[]⟩]) a w {G with O:=O'}:=by
  refine inv.zU (w':=w) (k:=k) (en:=⟨g, .dead,ty,[]⟩) (av':=G.av) (O':=O') (fun g' ⟨en',q1,q2⟩=>by rw[h]at q1;cases q1;exact q2) (fun _ _ _=>rfl) Fg trivial (fun b _ hb=>hO1 b hb) ?_ (fun _ _ _=>rfl) (Nat.le_refl _) rfl rfl rfl
  intro b;exact ND
 let val:Value->Value:=fun s=>match Instr.findNow (litD kz) s ents.toList 0 with|some (some (_,v))=>v|_=>undef
 have q6:∀s x,MapKept.IsKey (litD kz) s->jG s es=some x->∃i,Instr.findNow (litD kz) s ents.toList 0=some (some (i,val s))/\(val s).oneCell'=true/\Rv w G (val s) x:=by
  intro s x hs hx;have:=q5 s hs;rw[hx]at this;obtain⟨i,v,r1,r2,r3,r4⟩:=this
  have hv:val s=v:=by
   show(match Instr.findNow (litD kz) s ents.toList 0 with|some (some (_,v))=>v|_=>undef)=v
   rw[r1]
  rw[hv];exact⟨i,r1,r2,r3⟩
 have har:Rv w {G with O:=O'} (G.av k g) (V.mapV kz es):=by
  rw[q1];refine .mp b ents clock 0 kz es val (hO2 b q2) q3 q4 (fun s hs hx=>?_) (fun s x hs hx=>?_) (fun s x hs hx=>?_)
  ·have:=q5 s hs
   rw[hx]at this;exact this
  ·obtain⟨i,r1,r2,_⟩:=q6 s x hs hx
   exact⟨⟨i,r1⟩,r2⟩
  ·obtain⟨i,r1,r2,r3⟩:=q6 s x hs hx
   exact r3.aW hkp (assoc_pure hp hx)
 have hmp:(V.mapV kz es).pure:=by simp only[V.mapV,V.pure,V.ok,V.okL,and_true,true_and];exact hp
 have hB:∀i,(σ.apps [.a k ⟨g, .dead,ty,[]⟩]).hasB i->(meltMap k g ty (V.mapV kz es) σ).hasB i:=fun i ⟨l,hl⟩=>⟨mapR (meltM k g (V.mapV kz es)) l,by
  show(match σ.bx i with|none=>none|some l=>some (mapR (meltM k g (V.mapV kz es)) l))=_
  have hl':σ.bx i=some l:=hl;rw[hl']⟩
 have bx:∀i cs,(meltMap k g ty (V.mapV kz es) σ).bx i=some cs->∃l,σ.bx i=some l/\cs=l.map (meltM k g (V.mapV kz es)):=by
  intro i cs hi;have hi':(match σ.bx i with|none=>none|some l=>some (mapR (meltM k g (V.mapV kz es)) l))=some cs:=hi
  split at hi'
  ·cases hi'
  ·rename_i l hl
   cases hi';exact⟨l,hl,dU _ _⟩
 refine⟨_,{inv1 with env:=fun s=>?_,wfE:=fun s=>?_,box:=fun i cs hi=>?_,wfB:=fun i cs hi=>?_,argb:=fun i b hb=>?_}⟩
 ·exact meltM_rv har (inv1.env s)
 ·exact V.ok.imp hB (fun _ _ h=>h) _ (meltM_ok hmp (inv1.wfE s))
 ·obtain⟨l,hl,rfl⟩:=bx i cs hi
  obtain⟨c,t,g1,g2,g3⟩:=inv1.box i l hl;refine⟨c,t,g1,⟨by simpa using g2.len,g2.one,fun j v x hv hx=>?_⟩,g3⟩
  rw[List.getElem?_map]at hx
  cases hy:l[j]? with
  |none=>rw[hy]at hx;cases hx
  |some y=>
   rw[hy]at hx;cases hx;exact meltM_rv har (g2.rel j v y hv hy)
 ·obtain⟨l,hl,rfl⟩:=bx i cs hi
  refine aH.2 fun y hy=>?_;obtain⟨z,hz,rfl⟩:=List.mem_map.1 hy;exact V.ok.imp hB (fun _ _ h=>h) _ (meltM_ok hmp (aH.1 (inv1.wfB i l hl) z hz))
 ·obtain⟨h1,h2,cs,h3⟩:=inv1.argb i b hb
  obtain⟨cs',h4⟩:=hB i ⟨cs,h3⟩;exact⟨h1,h2,cs',h4⟩
theorem bB4{K:St->Prop}{σ':St}(h:Le T σ σ')(hk:K σ'):cR5 T σ K:=⟨⟨σ',h,hk⟩⟩
end
end Go.Ab
