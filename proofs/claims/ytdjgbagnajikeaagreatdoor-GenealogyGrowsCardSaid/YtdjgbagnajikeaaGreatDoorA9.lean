/-
  A load from one variable of the call, and a store to another one or an append, may change places.
-/
import Derived.Test.YtdjgbagnajikeaaGreatDoorA8
set_option linter.unusedVariables false
set_option linter.unusedSimpArgs false
noncomputable section
namespace Go.Ab
def Good(cl:List (Nat×Nat))(σ:St):Prop:=∀u i,claim cl u=some i->(σ.env u).ok (λj=>j=i) (λ_ _=>i=77777)
theorem Good.ne{cl:List (Nat×Nat)}{σ:St}(h:Good cl σ){u i:Nat}(a:claim cl u=some i)(hi:Nat.beq i 77777=false):(σ.env u).ok (λj=>j=i) (λ_ _=>False):=
 V.ok.imp (λ_ h=>h) (λ_ _ h=>by subst h;cases hi) _ (h u i a)
section
variable{T:Tab}{P:Program}{σ σ':St}{n d:Nat}{v v':V}{ms ms':List Mod}{ops:List Oper}{o p:Oper}{K:St->Prop}{cl:List (Nat×Nat)}{hv:List (Nat×List Nat)}
theorem dC3{env:Nat->V}{bx:Nat->Option (List V)}{ar:Nat->Option AE}{p:Nat->Prop}{q:Nat->Nat->Prop}(g:∀s,(env s).ok p q)(h:cO4 cl env):Good cl ⟨env,bx,ar⟩:=by
 induction cl with
 |nil=>intro u i a;cases a
 |cons q r j=>
  intro u i a;have e:okB q.2 (env q.1)/\cO4 r env:=h;unfold claim at a;rw[List.find?_cons]at a
  cases c:Nat.beq q.1 u with
  |true=>
   rw[c]at a;have:=Sj c;subst this;cases a;have f:=e.1
   show(env q.1).ok _ _;have b:=g q.1;generalize env q.1=x at f b⊢;unfold okB at f;grind [V.ok,V.okL]
  |false=>
   rw[c]at a;exact j e.2 u i a
theorem dQ7{r:Row}{x:V}{f:Nat}{i:Nat}(b:x.ok (λj=>j=i) (λ_ _=>i=77777))(h:jB r x f (Is v ms)):v.ok (λj=>j=i) (λ_ _=>i=77777):=by
 unfold jB at h;split at h
 ·rename_i o z q _ _
  cases a:Nat.beq z 0 with
  |true=>rw[a]at h;exact h.elim
  |false=>
   rw[a]at h;simp only[SA]at h;split at h
   ·obtain⟨rfl,_⟩:=h;simp_all [V.ok]
   ·rw[bC]at h
    exact Qh
   ·obtain⟨rfl,_⟩:=h;simp_all [V.ok]
   ·exact h.elim
 ·exact h.elim
theorem eC5(u:Value)(p:Nat->Prop)(q:Nat->Nat->Prop):(dD8 u).ok p q:=by
 unfold dD8;split
 ·rename_i cs
  cases allR Value.oneCell' cs.toList with
  |false=>simp only[SA,V.ok]
  |true=>
   simp_all [SG,dU,aH,QZ,V.ok]
 ·simp only[V.ok]
 ·simp only[V.ok]
theorem aC5(a:Good cl σ){x:Operand}{i:Nat}(h:zO cl x i=true):(σ.ev x).ok (λj=>j=i) (λ_ _=>i=77777):=by
 unfold zO at h;split at h
 ·rename_i u
  split at h
  ·rename_i j b
   have:=Sj h;subst this;exact a u i b
  ·cases h
 ·exact eC5 _ _ _
 ·cases h
theorem fZ4(a:Good cl σ){x:Operand}{i:Nat}(hi:Nat.beq i 77777=false)(h:zO cl x i=true):(σ.ev x).ok (λj=>j=i) (λ_ _=>False):=
 V.ok.imp (λ_ h=>h) (λ_ _ h=>by subst h;cases hi) _ (aC5 a h)
theorem fY0{r:Row}{x y:V}{p:Nat->Prop}{q:Nat->Nat->Prop}(hx:x.ok p q)(b:dG6 r.kd=true)(h:gI T r σ x y (Is v ms)):v.ok (λ_=>False) (λ_ _=>True):=by
 have el:∀ {l:List V} {z:V} {k:Nat},V.okL (λ_=>False) (λ_ _=>False) l->l[k]? =some z->V.okL (λ_=>False) (λ_ _=>False) z.cells:=by
  intro l z k hl hz;exact OY
 unfold gI at h;split at h
 ·split at h
  ·exact KA
  ·exact KA
  ·split at h
   ·obtain⟨_,h⟩:=aT (dX h).2
    obtain⟨rfl,_⟩:=h;simp only[V.ok]
   ·exact h.elim
  ·exact h.elim
 ·rename_i a
  rw[a]at b;cases b
 ·exact h.elim
theorem dQ8{r:Row}{x y:V}{i:Nat}(hx:x.ok (λj=>j=i) (λ_ _=>i=77777))(h:gI T r σ x y (Is v ms)):v.ok (λj=>j=i) (λ_ _=>i=77777):=by
 have el:∀ {l:List V} {z:V} {k:Nat},V.okL (λ_=>False) (λ_ _=>False) l->l[k]? =some z->V.okL (λ_=>False) (λ_ _=>False) z.cells:=by
  intro l z k hl hz;exact OY
 unfold gI at h;split at h
 ·split at h
  ·exact Jy
  ·exact Jy
  ·simp only[V.ok]at hx
   split at h
   ·obtain⟨_,h⟩:=aT (dX h).2
    obtain⟨rfl,_⟩:=h;simp only[V.ok];exact hx
   ·exact h.elim
  ·exact h.elim
 ·split at h
  ·rename_i k off
   cases hb:(Nat.blt _ r.alen&&Nat.blt r.elem (T.n r.elem))with
   |false=>rw[hb]at h;exact h.elim
   |true=>
    rw[hb]at h;obtain⟨rfl,_⟩:=h;simp_all [V.ok]
  ·cases hb:(Nat.blt _ r.alen&&Nat.blt r.elem (T.n r.elem))with
   |false=>rw[hb]at h;exact h.elim
   |true=>
    rw[hb]at h;simp only[SG]at h;rw[bC]at h;exact Qh
  ·exact h.elim
 ·exact h.elim
theorem bC3{d i:Nat}{xs:List V}(b:d=i)(h:lM σ d xs (Is v ms)):v.ok (λj=>j=i) (λ_ _=>False):=by
 unfold lM at h;split at h
 ·rw[bC]at h
  cases a:allR V.one xs with
  |false=>rw[a]at h;exact h.elim
  |true=>
   rw[a]at h;obtain⟨rfl,_⟩:=h;simp only[V.ok];exact b
 ·exact h.elim
theorem cG5(r:∀x:Operand,(σ.ev x).ok σ.hasB σ.hasA)(hg:Good cl σ)(hc:aL7 T cl o=true)(h:Eff T P hv n ops o σ v ms):Good cl (σ.put o.dst v ms):=by
 intro u i l;by_cases e:o.dst=some u
 ·rw[e,pI]
  unfold aL7 at hc;rw[e]at hc;simp only[l]at hc
  have key:bW T P (.drawn hv) σ (o.dst.getD n) o.op (Is v ms)->v.ok (λj=>j=i) (λ_ _=>i=77777):=by
   intro h;split at hc
   ·rename_i s x f a
    rw[a]at h;have h':opVC T σ (o.dst.getD n) (.fieldAddr s x f) (Is v ms):=h;unfold opVC at h';simp only at h'
    cases b:Nat.blt s (T.n s)with
    |false=>rw[b]at h';exact h'.elim
    |true=>
     rw[b]at h';exact dQ7 (aC5 hg hc) h'
   ·rename_i s x f a
    rw[a]at h;have h':opVC T σ (o.dst.getD n) (.indexAddr s x f) (Is v ms):=h;unfold opVC at h';simp only at h'
    cases b:Nat.blt s (T.n s)with
    |false=>rw[b]at h';exact h'.elim
    |true=>
     rw[b]at h';rw[Ud]at hc;rcases hc with hc|hc
     ·exact dQ8 (aC5 hg hc) h'
     ·rw[QN]at hc
      have k:i=77777:=Sj hc.1;exact V.ok.imp (λ_ h=>h.elim) (λ_ _ _=>k) _ (fY0 (r x) hc.2 h')
   ·rename_i x a
    rw[a]at h;have h':opVC T σ (o.dst.getD n) (.move x) (Is v ms):=h;unfold opVC at h';simp only at h';exact Qv
   ·rename_i x a
    rw[a]at h;have h':opVC T σ (o.dst.getD n) (.nilCheck x) (Is v ms):=h;unfold opVC at h';simp only at h';obtain⟨_,h'⟩:=aT h';exact Qv
   ·rename_i t a
    have hui:u=i:=Sj hc;rw[a,e]at h;have h':opVC T σ u (.alloc t) (Is v ms):=h
    unfold opVC at h';simp only at h'
    cases b:Nat.blt t (T.n t)with
    |false=>rw[b]at h';exact h'.elim
    |true=>
     rw[b]at h';exact Qb
   ·rename_i t x a
    have hui:u=i:=Sj hc;rw[a,e]at h;have h':opVC T σ u (.box t x) (Is v ms):=h
    unfold opVC at h';exact Qb
   ·rename_i t x y C a
    rw[a]at h;obtain⟨m,w⟩:∃m,m=y:=⟨_,rfl⟩
    have h':bD7 T .rem t (σ.ev x) (σ.ev y) (Is v ms):=by
     unfold bW at h;split at h<;>rename_i c<;>first|(cases c;done)|skip
     ·injection c with e1 e2 e3 e4 e5
      subst e1 e2 e3 e4 e5;split at h
      ·rename_i z _;cases z
      ·exact h
     ·exact h
    unfold bD7 at h';split at h'
    ·rename_i B D q E _ _
     by_cases g:B=q
     ·simp only[g,decide_true,SG]at h'
      have A:=(dX h').2;obtain⟨rfl,_⟩:=A;unfold lC;simp only[V.ok]
     ·simp only[g,decide_false,SA]at h'
      exact(h':False).elim
    ·exact h'.elim
    ·exact L8
    ·obtain⟨_,h'⟩:=aT h'
     exact(h':False).elim
    ·exact L8
    ·exact h'.elim
   ·cases hc
  unfold Eff at h;obtain⟨_,h⟩:=h;split at h
  ·exact key h
  ·obtain⟨s,_,h⟩:=h
   rcases h with⟨_,h⟩|⟨_,rfl,_⟩
   ·exact key h
   ·simp only[V.ok,V.okL]
 ·rw[bU _ _ _ _ e]
  exact hg u i l
theorem cQ5{t:TypeId}{x y:Operand}(h:bW T P (.drawn hv) σ d (.indexAddr t x y) (Is v ms)):ms=[] :=by
 have h':opVC T σ d (.indexAddr t x y) (Is v ms):=h;unfold opVC at h'
 have hm:Mo (λms=>ms=[]) (λK=>cond (Nat.blt t (T.n t)) (gI T (T.row t) σ (σ.ev x) (σ.ev y) K) False):=by
  refine Mo.cond ?_ Mo.false;unfold gI;split
  ·split
   ·exact LP
   ·exact LP
   ·split
    ·exact Mo.need λ_=>Mo.cond (Mo.ret _ rfl) Mo.false
    ·exact Mo.false
   ·exact Mo.false
  ·split
   ·exact Mo.cond (Mo.ret _ rfl) Mo.false
   ·exact Mo.cond (Mo.bJ λl=>Mo.ret _ rfl) Mo.false
   ·exact Mo.false
  ·exact Mo.false
 exact O8
theorem bS5{t:TypeId}{x:Operand}(h:bW T P (.drawn hv) σ d (.load t x) (Is v ms)):ms=[] :=by
 have h':opVC T σ d (.load t x) (Is v ms):=h;unfold opVC at h'
 have hm:Mo (λms=>ms=[]) (λK=>cond (Nat.blt t (T.n t)) (pW (T.row t) σ (σ.ev x) K) False):=by
  refine Mo.cond ?_ Mo.false;unfold pW;split
  ·split
   ·exact rM (R:=λms=>ms=[]) rfl _ _
   ·exact Mo.false
  ·exact rM (R:=λms=>ms=[]) rfl _ _
  ·split
   ·exact Mo.need λ_=>Mo.idx λx=>Mo.cond (rM (R:=λms=>ms=[]) rfl _ _) Mo.false
   ·exact Mo.false
  ·exact Mo.false
 exact O8
theorem cT0{t:TypeId}{x y:Operand}{i:Nat}{q:Nat->Nat->Prop}(b:(σ.ev x).ok (λj=>j=i) q)(h:bW T P (.drawn hv) σ d (.store t x y) (Is v ms)):∀m∈ms,∀j,j≠i->¬m.isB j:=by
 have e:opVC T σ d (.store t x y) (Is v ms):=h;unfold opVC at e
 have a:Mo (λms=>∀m∈ms,∀j,j≠i->¬m.isB j) (λK=>cond (Nat.blt t (T.n t)) (qU (T.row t) σ (σ.ev x) (σ.ev y) K) False):=by
  refine Mo.cond ?_ Mo.false;unfold qU;split
  ·rename_i k off r
   rw[r]at b;simp only[V.ok]at b;subst b;split
   ·refine Mo.cond (Mo.bJ λl=>Mo.ret _ ?_) Mo.false
    intro m a j f c;cases QI.1 a;exact f c.symm
   ·exact Mo.false
  ·split
   ·refine Mo.need λ_=>Mo.idx λx=>Mo.cond (Mo.bJ λl=>Mo.ret _ ?_) Mo.false
    intro m a j f c;cases QI.1 a;exact c
   ·exact Mo.false
  ·exact Mo.false
 obtain⟨u,g,⟨_,w⟩,s⟩:=a _ e;simp_all
theorem cL2{f:Array Operand}{e:Array TypeId}(h:bW T P (.drawn hv) σ d (.call ⟨.builtin .append,f,e⟩) (Is v ms)):∀m∈ms,∀j,¬m.isB j:=by
 have one:∀(k:Nat) (en:AE),∀m∈[Mod.a k en],∀j,¬m.isB j:=λk en m hm j g=>by cases QI.1 hm;exact g
 have h':opVC T σ d (.call ⟨.builtin .append,f,e⟩) (Is v ms):=h;unfold opVC at h';split at h'<;>rename_i c<;>try(cases c;done)
 ·rename_i s x t b
  have hm:Mo (λms=>∀m∈ms,∀j,¬m.isB j) (λK=>cond (Nat.blt t (T.n t)&&Nat.blt b (T.n b)) (kT T (T.row t) (T.row b).kd σ d (σ.ev s) (σ.ev x) K) False):=by
   refine Mo.cond ?_ Mo.false;unfold kT;split
   ·refine Mo.cond (Mo.contsK λxs=>?_) Mo.false
    split
    ·exact KJ
    ·exact KJ
    ·exact KJ
    ·exact Mo.false
   ·exact Mo.false
  exact OX
 all_goals exact h'.elim
theorem bG5{t:TypeId}{x:Operand}{lo hi u:Option Operand}(I:∀x:Operand,(σ.ev x).ok σ.hasB σ.hasA)(h:bW T P (.drawn hv) σ d (.slice t x lo hi u) (Is v ms)):
 ms=[]/\∀y∈(Op.slice t x lo hi u).operands,(σ.ev y).ok (λ_=>False) (λk _=>∃en,σ.ar k=some en/\en.kind= .frz):=by
 have a:opVC T σ d (.slice t x lo hi u) (Is v ms):=by
  cases x<;>exact h
 unfold opVC at a;simp only at a
 have A:∀y,y∈(Op.slice t x lo hi u).operands->y=x\/lo=some y\/hi=some y\/u=some y:=by
  grind [Op.operands]
 have lit:∀ {o:Option Operand} {y:Operand} {c:Int} {K:Int->Prop},o=some y->bound (o.map σ.ev) c K->(σ.ev y).ok (λ_=>False) (λk _=>∃en,σ.ar k=some en/\en.kind= .frz):=by
  intro o y c K e f;subst e;simp only[Option.map]at f;generalize σ.ev y=M at f;unfold bound at f;split at f
  ·rename_i e;cases e
  ·rename_i e;cases e;trivial
  ·exact f.elim
 have b:∀ {o:Option V} {c:Int} {K:Int->Prop},bound o c K->∃n,K n:=by
  intro o c K f;unfold bound at f;grind
 have r:∀ {K:List V->Prop},lV σ (σ.ev x) K->(σ.ev x).ok (λ_=>False) (λk _=>∃en,σ.ar k=some en/\en.kind= .frz)/\∃xs,K xs:=by
  intro K B;have F:=I x;generalize σ.ev x=L at B F;unfold lV at B;grind [dX,V.ok]
 cases f:Nat.blt t (T.n t)with
 |false=>rw[f]at a;exact a.elim
 |true=>
  rw[f]at a;simp only[cond]at a;unfold sZ at a;split at a
  ·rename_i s E C
   split at a
   ·rename_i g
    obtain⟨l,w⟩:=b a;obtain⟨H,i⟩:=b w;have q:=(dX i).2;refine⟨q.2.symm,λy z=>?_⟩;rcases A y z with rfl|e|e|e
    ·rw[C];trivial
    ·exact lit e a
    ·exact lit e w
    ·subst e;cases g
   ·exact a.elim
  ·rename_i E _
   cases j:Nat.blt (T.row t).elem (T.n (T.row t).elem)with
   |false=>rw[j]at a;exact a.elim
   |true=>
    rw[j]at a;simp only[cond]at a;obtain⟨C,xs,G⟩:=r a;obtain⟨l,w⟩:=b G;obtain⟨H,i⟩:=b w;split at i
    ·rename_i g
     have q:=(dX i).2;refine⟨q.2.symm,λy z=>?_⟩;grind
    ·rename_i m g
     split at i
     ·exact i.elim
     ·obtain⟨J,q⟩:=b i
      have D:=(dX q).2;refine⟨D.2.symm,λy z=>?_⟩;grind
  ·exact a.elim
theorem dN0{g:Array Operand}{f:Array TypeId}(h:bW T P (.drawn hv) σ d (.call ⟨.builtin .append,g,f⟩) (Is v ms)):∀m∈ms,∀k en,σ.ar k=some en->en.kind= .frz->¬m.isA k:=by
 have one:∀(k:Nat) (b:AE),(∀en,σ.ar k=some en->en.kind≠ .frz)->∀m∈[Mod.a k b],∀j en,σ.ar j=some en->en.kind= .frz->¬m.isA j:=λk b l m hm j en u h2 i=>by
  cases QI.1 hm;cases i;exact l en u h2
 have h':opVC T σ d (.call ⟨.builtin .append,g,f⟩) (Is v ms):=h;unfold opVC at h';split at h'<;>rename_i e<;>try(cases e;done)
 ·rename_i s x t c
  have hm:Mo (λms=>∀m∈ms,∀j en,σ.ar j=some en->en.kind= .frz->¬m.isA j) (λK=>cond (Nat.blt t (T.n t)&&Nat.blt c (T.n c)) (kT T (T.row t) (T.row c).kd σ d (σ.ev s) (σ.ev x) K) False):=by
   refine Mo.cond ?_ Mo.false;unfold kT;split
   ·refine Mo.cond (Mo.contsK λxs=>?_) Mo.false
    split
    ·exact KL
    ·exact KL
    ·split
     ·rename_i r hd
      exact Mo.need λq=>Mo.ret _ (one _ _ (λen he=>by rw[hd]at he;cases he;rcases q.2.1 with h|h<;>rw[h] <;>simp))
     ·exact Mo.false
    ·exact Mo.false
   ·exact Mo.false
  exact OX
 all_goals exact h'.elim
theorem dV9(b:hvO hv o=false)(he:∀t∈o.looksAt ops.toArray,σ'.env t=σ.env t)(q:(∃d,bW T P (.drawn hv) σ d o.op (Is v ms))->1<cls o.op->∀x∈o.op.operands,(σ.ev x).agr σ σ')(k:∀m∈ms,m.same σ σ')(h:Eff T P hv n ops o σ v ms):Eff T P hv n ops o σ' v ms:=by
 have c:∀x∈o.op.operands,σ'.ev x=σ.ev x:=by
  intro x hx;exact PV
 unfold Eff at*;obtain⟨z,i⟩:=h;refine⟨z,?_⟩;split at i
 ·rename_i u
  exact aO9 (λe=>by rw[aP3 b]at e;cases e) c (q ⟨_,i⟩) k i
 ·rename_i j r u
  obtain⟨s,y,a⟩:=i
  have w:σ'.env s=σ.env s:=by
   grind [uN,Oper.looksAt,tV]
  refine⟨s,y,?_⟩;rw[w];rcases a with⟨a,l⟩|a
  ·exact .inl ⟨a,aO9 (λe=>by rw[aP3 b]at e;cases e) c (q ⟨_,l⟩) k l⟩
  ·exact .inr a
theorem cY5(l:hvO hv p=false)(hno:hvO hv o=false)(wf:∀x:Operand,(σ.ev x).ok σ.hasB σ.hasA)(c:Oper.apart ops.toArray p o=true){t:TypeId}{w:Operand}{lo hi A:Option Operand}(y:p.op= .slice t w lo hi A)(B:isApp o.op=true)
 (C:Eff T P hv n ops p σ v ms)(h2:Eff T P hv n ops o (σ.put p.dst v ms) v' ms'):
 Eff T P hv n ops o σ v' ms'/\Eff T P hv n ops p (σ.put o.dst v' ms') v ms/\(σ.put p.dst v ms).put o.dst v' ms'=(σ.put o.dst v' ms').put p.dst v ms:=by
 obtain⟨hp1,u,z⟩:=TP c
 have i:ms=[] :=by
  grind [bG5,Eff]
 subst i;have b1:(σ.put p.dst v []).bx=σ.bx:=Fj;have a1:(σ.put p.dst v []).ar=σ.ar:=Fp
 have r:Eff T P hv n ops o σ v' ms':=MO
 have D:∀m∈ms',∀k en,σ.ar k=some en->en.kind= .frz->¬m.isA k:=by
  have h2:=r;unfold Eff at h2;obtain⟨_,h2⟩:=h2
  have key:bW T P (.drawn hv) σ (o.dst.getD n) o.op (Is v' ms')->∀m∈ms',∀k en,σ.ar k=some en->en.kind= .frz->¬m.isA k:=by
   intro h;unfold isApp at B;grind [dN0]
  grind
 refine⟨r,?_,?_⟩
 ·refine dV9 l (σ:=σ) ?_ ?_ ?_ C
  ·grind [bU]
  ·rintro⟨d,q⟩ _ x hx
   rw[y]at q hx;refine V.ok.imp ?_ ?_ _ ((bG5 wf q).2 x hx)
   ·intro _ h;exact h.elim
   ·simp_all [nX,lW]
  ·intro m s;cases s
 ·grind [put_comm]
theorem eC6{b:Array Operand}{c:Array TypeId}(h:bW T P (.drawn hv) σ d (.call ⟨.builtin .len,b,c⟩) (Is v ms)):ms=[] :=by
 have h':opVC T σ d (.call ⟨.builtin .len,b,c⟩) (Is v ms):=h;unfold opVC at h';split at h'<;>rename_i a<;>try(cases a;done)
 ·rename_i x t
  have hm:Mo (λms=>ms=[]) (λK=>cond (Nat.blt t (T.n t)) (match(T.row t).kd with| .slice=>aE9 σ (σ.ev x) K| .str=>aI4 (σ.ev x) K|_=>False) False):=by
   refine Mo.cond ?_ Mo.false;split
   ·unfold aE9
    split
    ·exact Mo.ret _ rfl
    ·exact Mo.ret _ rfl
    ·exact Mo.ret _ rfl
    ·split
     ·exact Mo.need λ_=>Mo.ret _ rfl
     ·exact Mo.false
    ·exact Mo.false
   ·unfold aI4
    split
    ·exact Mo.ret _ rfl
    ·exact Mo.false
   ·exact Mo.false
  exact O8
 all_goals exact h'.elim
theorem dL0(hnp:hvO hv p=false)(hno:hvO hv o=false)(wf:∀x:Operand,(σ.ev x).ok σ.hasB σ.hasA)(q:Good cl σ)(l:Oper.apart ops.toArray p o=true)(hs:aM7 cl p.op o.op=true)
 (A:Eff T P hv n ops p σ v ms)(h2:Eff T P hv n ops o (σ.put p.dst v ms) v' ms'):
 Eff T P hv n ops o σ v' ms'/\Eff T P hv n ops p (σ.put o.dst v' ms') v ms/\(σ.put p.dst v ms).put o.dst v' ms'=(σ.put o.dst v' ms').put p.dst v ms:=by
 by_cases k:∃t x lo hi D,p.op= .slice t x lo hi D
 ·obtain⟨t,x,lo,hi,D,k⟩:=k
  rw[k]at hs;exact cY5 hnp hno wf l k hs A h2
 obtain⟨hp1,F,G⟩:=TP l
 obtain⟨i,hs,z,E⟩:∃i,sepO cl i o.op=true/\(∀x∈p.op.operands,(σ.ev x).ok (λj=>j=i) (λ_ _=>False))/\(∀d v ms,bW T P (.drawn hv) σ d p.op (Is v ms)->ms=[]):=by
  unfold aM7 at hs;split at hs
  ·rename_i t u c
   split at hs
   ·rename_i i hi
    rw[QN]at hs;refine⟨i,hs.2,λx hx=>?_,λd v ms h=>?_⟩
    ·rw[c]at hx
     have:x= .tmp u:=FX;subst this;exact q.ne hi Hr
    ·rw[c]at h;exact bS5 h
   ·cases hs
  ·rename_i t u y c
   split at hs
   ·rename_i i hi
    rw[QN,QN]at hs;refine⟨i,hs.2.2,λx hx=>?_,λd v ms h=>?_⟩
    ·rw[c]at hx
     have:x= .tmp u\/x=y:=FX;rcases this with rfl|rfl
     ·exact q.ne hi Hr
     ·exact fZ4 q Hr hs.2.1
    ·rw[c]at h;exact cQ5 h
   ·cases hs
  ·simp_all
  ·rename_i u L c
   split at hs
   ·rename_i i hi
    rw[QN]at hs;refine⟨i,hs.2,λx hx=>?_,λd v ms h=>?_⟩
    ·rw[c]at hx
     have:x= .tmp u:=by simpa [Op.operands,Call.operands]using hx
     subst this;exact q.ne hi Hr
    ·rw[c]at h;exact eC6 h
   ·cases hs
  ·cases hs
 have r:ms=[] :=by
  grind [Eff]
 subst r;have b1:(σ.put p.dst v []).bx=σ.bx:=Fj;have a1:(σ.put p.dst v []).ar=σ.ar:=Fp
 have C:Eff T P hv n ops o σ v' ms':=MO
 have I:∀m∈ms',¬m.isB i:=by
  have h2:=C;unfold Eff at h2;obtain⟨_,h2⟩:=h2
  have key:bW T P (.drawn hv) σ (o.dst.getD n) o.op (Is v' ms')->∀m∈ms',¬m.isB i:=by
   intro h;unfold sepO at hs;split at hs
   ·rename_i J B y s
    rw[s]at h;split at hs
    ·rename_i j H
     refine λm w=>cT0 (σ:=σ) (x:= .tmp B) (i:=j) (q B j H) h m w i (λe=>?_);subst e;simp at hs
    ·cases hs
   ·grind [cL2]
   ·cases hs
  grind
 refine⟨C,?_,?_⟩
 ·refine mW (σ:=σ) (λhq=>Et) ?_ ?_ ?_ A
  ·grind [bU]
  ·intro _ x hx
   refine V.ok.imp ?_ ?_ _ (z x (by simpa using hx))
   ·simp_all [lT,jJ]
   ·intro _ _ h;exact h.elim
  ·intro m w;cases w
 ·grind [put_comm]
mutual
theorem cD8{p p':Nat->Prop}{q a:Nat->Nat->Prop}: {x:V}->x.ok p q->x.ok p' a->x.ok (λi=>p i/\p' i) (λk g=>q k g/\a k g)
 | .box i _,h,h'=>Eu
 | .arr k g,h,h'=>Eu
 | .ae k g _ _ _,h,h'=>Eu
 | .agg cs,h,h'=>DW
 | .tup cs,h,h'=>DW
 | .sl l,h,_=>AY
 | .cap l,h,_=>AY
 | .fp l,h,_=>AY
 | .fn _ l,h,h'=>DW
 | .own _ l,h,_=>AY
 | .ap _ l,h,_=>AY
 | .bot,_,_=>BK
 | .lit _,_,_=>BK
theorem aL2{p p':Nat->Prop}{q b:Nat->Nat->Prop}: {l:List V}->V.okL p q l->V.okL p' b l->V.okL (λi=>p i/\p' i) (λk g=>q k g/\b k g) l
 | [],_,_=>BX
 |x::r,h,a=>by simp only[V.okL]at h a⊢;exact⟨cD8 h.1 a.1,aL2 h.2 a.2⟩
end
def Mod.frzA:Mod->Prop
 | .a _ en=>en.kind= .frz
 | .b _ _=>False
theorem gH6(l:List V):capK l≠ .frz:=by
 unfold capK;split<;>exact λh=>Ah
theorem fO7{g:Array Operand}{f:Array TypeId}(h:bW T P (.drawn hv) σ d (.call ⟨.builtin .append,g,f⟩) (Is v ms)):∀m∈ms,¬m.frzA:=by
 have b:∀(k:Nat) (en:AE),en.kind≠ .frz->∀m∈[Mod.a k en],¬m.frzA:=λk en l m hm i=>by cases QI.1 hm;exact l i
 have h':opVC T σ d (.call ⟨.builtin .append,g,f⟩) (Is v ms):=h;unfold opVC at h';split at h'<;>rename_i e<;>try(cases e;done)
 ·rename_i s x t c
  have hm:Mo (λms=>∀m∈ms,¬m.frzA) (λK=>cond (Nat.blt t (T.n t)&&Nat.blt c (T.n c)) (kT T (T.row t) (T.row c).kd σ d (σ.ev s) (σ.ev x) K) False):=by
   refine Mo.cond ?_ Mo.false;unfold kT;split
   ·refine Mo.cond (Mo.contsK λxs=>?_) Mo.false
    split
    ·split
     ·exact Mo.need λ_=>Mo.ret _ (b _ _ (λh=>Ah))
     ·exact Mo.false
    ·split
     ·exact Mo.need λ_=>Mo.ret _ (b _ _ (gH6 _))
     ·exact Mo.false
    ·split
     ·exact Mo.need λj=>Mo.ret _ (b _ _ (by rcases j.2.1 with q|q<;>rw[q] <;>exact λh=>by cases h))
     ·exact Mo.false
    ·exact Mo.false
   ·exact Mo.false
  exact OX
 all_goals exact h'.elim
theorem fY9{en:AE}{j:Nat}:∀(ms:List Mod) (σ:St),(∀m∈ms,¬m.frzA)->(σ.apps ms).ar j=some en->en.kind= .frz->σ.ar j=some en
 | [],σ,_,h,_=>h
 |m::r,σ,g,h,l=>by
  have u:((m.app σ).apps r).ar j=some en:=h;have s:=fY9 r (m.app σ) (λt f=>g t (SB _ f)) u l
  cases m with
  |b i cs=>exact s
  |a k e=>
   have c:upd σ.ar k (some e) j=some en:=s;by_cases q:j=k
   ·subst q
    rw[upd_same]at c;cases c;exact absurd l (g (Mod.a j en) (SK ..))
   ·rw[upd_ne _ _ q]at c
    exact c
theorem gE0(hnp:hvO hv p=false)(F:hvO hv o=false)(wf:∀x:Operand,(σ.ev x).ok σ.hasB σ.hasA)(u:∀x:Operand,((σ.put p.dst v ms).ev x).ok (σ.put p.dst v ms).hasB (σ.put p.dst v ms).hasA)(M:Good cl σ)(A:Oper.apart ops.toArray p o=true)(D:fL7 cl p.op o.op=true)
 (h1:Eff T P hv n ops p σ v ms)(G:Eff T P hv n ops o (σ.put p.dst v ms) v' ms'):
 Eff T P hv n ops o σ v' ms'/\Eff T P hv n ops p (σ.put o.dst v' ms') v ms/\(σ.put p.dst v ms).put o.dst v' ms'=(σ.put o.dst v' ms').put p.dst v ms:=by
 obtain⟨hp1,I,J⟩:=TP A;unfold fL7 at D;rw[QN]at D;obtain⟨N,s⟩:=D
 have E:(∀m∈ms,∀j,¬m.isB j)/\(∀m∈ms,¬m.frzA):=by
  have c:=h1;unfold Eff at c;obtain⟨_,c⟩:=c;unfold isApp at N;grind [cL2,fO7]
 obtain⟨R,S⟩:=E
 have B:∀j,(σ.put p.dst v ms).bx j=σ.bx j:=λj=>by
  simp_all [lT,jJ]
 have w:∀x∈o.op.operands,(σ.put p.dst v ms).ev x=σ.ev x:=λx hx=>IJ
 have Q:(cl.any λq=> !Nat.beq q.2 77777&&o.op.operands.all λx=>zO cl x q.2)=true->∃i,∀x∈o.op.operands,(σ.ev x).ok (λj=>j=i) (λ_ _=>False):=λh=>by
  rw[List.any_eq_true]at h;obtain⟨q,_,hq⟩:=h;rw[QN,Array.all_eq_true_iff_forall_mem]at hq;exact⟨q.2,λx hx=>fZ4 M (by simpa using hq.1) (hq.2 x hx)⟩
 have H:(∃i,∀x∈o.op.operands,(σ.ev x).ok (λj=>j=i) (λ_ _=>False))->∀x∈o.op.operands,(σ.ev x).agr (σ.put p.dst v ms) σ:=λ⟨i,h⟩ x hx=>V.ok.imp (λj _=>(B j).symm) (λ_ _ h=>h.elim) _ (h x hx)
 have key:ms'=[]/\((∃d,bW T P (.drawn hv) (σ.put p.dst v ms) d o.op (Is v' ms'))->∀x∈o.op.operands,(σ.ev x).agr (σ.put p.dst v ms) σ):=by
  have l:=G;unfold Eff at l;obtain⟨_,l⟩:=l
  have C:(∀d,bW T P (.drawn hv) (σ.put p.dst v ms) d o.op (Is v' ms')->ms'=[])->ms'=[] :=λh=>by
   grind
  split at s
  ·rename_i k
   refine⟨C (λd h=>by rw[k]at h;exact(bG5 u h).1),?_⟩
   rintro⟨d,h⟩ x hx;rw[k]at h hx;have r:=(bG5 u h).2 x hx;rw[w x (by rw[k];exact hx)]at r
   refine V.ok.imp ?_ ?_ _ r
   ·intro _ h;exact h.elim
   ·grind [nX,fY9]
  ·grind [bS5]
  ·grind [cQ5]
  ·grind [eC6]
  ·cases s
 obtain⟨y,z⟩:=key;subst y;have b1:(σ.put o.dst v' []).bx=σ.bx:=Fj;have a1:(σ.put o.dst v' []).ar=σ.ar:=Fp
 refine⟨?_,?_,?_⟩
 ·refine dV9 F (σ:=σ.put p.dst v ms) ?_ ?_ ?_ G
  ·grind [bU]
  ·intro O _ x hx
   rw[w x hx];exact z O x hx
  ·intro m L;cases L
 ·exact Jv
 ·grind [put_comm]
def Hd(a b:Option AE):Prop:=match a,b with
 |some x,some y=>x.gen=y.gen/\x.kind=y.kind/\x.ty=y.ty/\x.l.length=y.l.length
 |none,none=>True
 |_,_=>False
theorem Hd.rfl'(a:Option AE):Hd a a:=by cases a<;>simp[Hd]
theorem Hd.symm{a b:Option AE}(h:Hd a b):Hd b a:=by
 cases a<;>cases b<;>simp_all [Hd]
theorem fX4{t:TypeId}{x y:Operand}(h:bW T P (.drawn hv) σ d (.store t x y) (Is v ms))(k:Nat):Hd (σ.ar k) ((σ.apps ms).ar k):=by
 have a:opVC T σ d (.store t x y) (Is v ms):=h;unfold opVC at a;simp only at a;obtain⟨_,a⟩:=aT a;unfold qU at a;split at a
 ·split at a
  ·obtain⟨_,a⟩:=aT a
   rw[bC]at a;obtain⟨_,rfl⟩:=a;exact Hd.rfl' _
  ·exact a.elim
 ·rename_i j g sz i off e
  split at a
  ·rename_i en b
   obtain⟨_,a⟩:=dX a;obtain⟨z,f,a⟩:=cO3 a;obtain⟨_,a⟩:=aT a;rw[bC]at a;obtain⟨_,rfl⟩:=a;show Hd (σ.ar k) (upd σ.ar j (some _) k);by_cases c:k=j
   ·subst c
    rw[upd_same,b];exact⟨rfl,rfl,rfl,Ae⟩
   ·rw[upd_ne _ _ c]
    exact Hd.rfl' _
  ·exact a.elim
 ·exact a.elim
theorem fL9(a:∃t x y,p.op= .store t x y)(h:Eff T P hv n ops p σ v ms)(k:Nat):Hd (σ.ar k) ((σ.apps ms).ar k):=by
 obtain⟨t,x,y,a⟩:=a;unfold Eff at h;rw[a]at h;obtain⟨_,h⟩:=h;split at h
 ·exact fX4 h k
 ·obtain⟨s,_,h⟩:=h
  rcases h with⟨_,h⟩|⟨_,_,rfl⟩
  ·exact fX4 h k
  ·exact Hd.rfl' _
theorem fU8{r:Row}{x y:V}(e:∀k,Hd (σ.ar k) (σ'.ar k))(h:gI T r σ x y (Is v ms)):gI T r σ' x y (Is v ms):=by
 cases x
 case arr k g=>
  have c:=e k;unfold gI at h⊢;split at h
  ·rename_i i
   simp only at h⊢;generalize σ.ar k=a at h c;generalize σ'.ar k=b at c⊢
   cases a with
   |none=>exact h.elim
   |some en=>
    cases b with
    |none=>exact c.elim
    |some f=>
     obtain⟨t,s⟩:=dX h;obtain⟨j,q,l,m⟩:=c;simp_all
  ·exact h.elim
  ·exact h.elim
 all_goals exact h
theorem fT5(a:∃t x y,o.op= .indexAddr t x y)(m:∀t∈o.looksAt ops.toArray,σ'.env t=σ.env t)(j:∀k,Hd (σ.ar k) (σ'.ar k))(h:Eff T P hv n ops o σ v ms):Eff T P hv n ops o σ' v ms:=by
 obtain⟨t,x,y,a⟩:=a
 have b:∀z∈o.op.operands,σ'.ev z=σ.ev z:=by
  intro z l
  cases z with
  |tmp t=>
   refine m t ?_;unfold Oper.looksAt;rw[QJ];left;rw[List.mem_filterMap];exact⟨.tmp t,Uk.2 l,rfl⟩
  |const v=>rfl
  |global g=>rfl
  |func f=>rfl
 have i:σ'.ev x=σ.ev x:=b x (by rw[a];simp[Op.operands])
 have e:σ'.ev y=σ.ev y:=b y (by rw[a];simp[Op.operands])
 have key:∀d,bW T P (.drawn hv) σ d o.op (Is v ms)->bW T P (.drawn hv) σ' d o.op (Is v ms):=by
  intro d h;rw[a]at h⊢;have c:opVC T σ d (.indexAddr t x y) (Is v ms):=h;show opVC T σ' d (.indexAddr t x y) (Is v ms);unfold opVC at c⊢;simp only at c⊢;obtain⟨r,q⟩:=aT c;rw[r,i,e];exact fU8 j q
 grind [uN,Eff,Oper.looksAt,tV]
theorem fJ4(a:∃t x y,o.op= .indexAddr t x y)(h:Eff T P hv n ops o σ v ms):ms=[] :=by
 grind [cQ5,Eff]
theorem gJ0(hnp:hvO hv p=false)(hno:hvO hv o=false)(wf:∀x:Operand,(σ.ev x).ok σ.hasB σ.hasA)(s:Oper.apart ops.toArray p o=true)(r:fY1 p.op o.op=true)
 (h1:Eff T P hv n ops p σ v ms)(z:Eff T P hv n ops o (σ.put p.dst v ms) v' ms'):
 Eff T P hv n ops o σ v' ms'/\Eff T P hv n ops p (σ.put o.dst v' ms') v ms/\(σ.put p.dst v ms).put o.dst v' ms'=(σ.put o.dst v' ms').put p.dst v ms:=by
 obtain⟨hp1,C,q⟩:=TP s;have w:∀x∈o.op.operands,(σ.put p.dst v ms).ev x=σ.ev x:=λx hx=>IJ;unfold fY1 at r;split at r
 ·rename_i t x y B x' D i l
  have c:=fJ4 ⟨_,_,_,i⟩ h1;subst c;have b1:(σ.put p.dst v []).bx=σ.bx:=Fj
  have a1:(σ.put p.dst v []).ar=σ.ar:=Fp
  have A:Eff T P hv n ops o σ v' ms':=by
   refine mW (σ:=σ.put p.dst v []) (λhq=>Es) ?_ ?_ ?_ z
   ·grind [bU]
   ·intro _ x hx
    rw[w x hx];exact V.ok.imp (λj _=>Ic) (λj _ _=>Ie) _ (wf x)
   ·intro m _
    cases m with
    |b j cs=>show σ.bx j=_;rw[b1]
    |a j cs=>show σ.ar j=_;rw[a1]
  refine⟨A,?_,?_⟩
  ·refine fT5 ⟨_,_,_,i⟩ (λt u=>bU _ _ _ _ (λe=>q t e u)) (λk=>?_) h1
   rw[nX];exact fL9 ⟨_,_,_,l⟩ A k
  ·grind [put_comm]
 ·rename_i t x y B x' D i l
  have c:=fJ4 ⟨_,_,_,l⟩ z;subst c;have b1:(σ.put o.dst v' []).bx=σ.bx:=Fj
  have a1:(σ.put o.dst v' []).ar=σ.ar:=Fp;refine⟨?_,?_,?_⟩
  ·refine fT5 ⟨_,_,_,l⟩ (λt u=>(bU _ _ _ _ (λe=>hp1 t e u)).symm) (λk=>?_) z
   rw[nX];exact(fL9 ⟨_,_,_,i⟩ h1 k).symm
  ·exact Jv
  ·grind [put_comm]
 ·cases r
theorem aJ7{ar:Nat->Option AE}{is:List Nat}:∀ {ys xs:List V} {N:Nat} {K:List V->List Mod->Prop},oJ ar is [] ys xs N K->∃vs ms,K vs ms/\∀m∈ms,∃k en,m= .a k en/\ar k=none:=by
 intro ys
 induction ys with
 |nil=>
  intro xs N K h
  cases xs with
  |nil=>exact⟨[],[],h,λm hm=>H8⟩
  |cons x r=>exact(h:False).elim
 |cons y r q=>
  intro xs N K h
  cases xs with
  |nil=>exact(h:False).elim
  |cons x xr=>
   have i:∀(b:AK) (e:TypeId) (l:List V),(xO ar [] N b e l x λv m=>oJ ar is [] r xr (N+1000) λvs ms=>K (v::vs) (m::ms))->∃vs ms,K vs ms/\∀m∈ms,∃k en,m= .a k en/\ar k=none:=by
    intro b e l c;rcases aT3 c with⟨k,g,en,_,f,_⟩|⟨j,hK⟩
    ·cases f
    ·grind
   grind [zL,force_eq]
theorem bE6{bx:Nat->Option (List V)}{ar:Nat->Option AE}{c:List Nat}:∀ {bs:List (List V)} {is:List Nat} {N:Nat} {K:List Mod->Prop},aB3 bx ar c [] bs is N K->∃ms,K ms/\∀m∈ms,(∃k en,m= .a k en/\ar k=none)\/∃i∈is,m.isB i:=by
 intro bs
 induction bs with
 |nil=>
  intro is N K h
  cases is with
  |nil=>exact⟨[],h,λm hm=>H8⟩
  |cons x r=>exact(h:False).elim
 |cons b r e=>
  intro is N K h
  cases is with
  |nil=>exact(h:False).elim
  |cons i g=>
   rw[aJ1]at h;split at h
   ·obtain⟨vs,ms,h,q⟩:=aJ7 h
    obtain⟨ns,h,f⟩:=e h;refine⟨_,h,λm hm=>?_⟩;rw[bT]at hm;rcases QJ.1 hm with hm|hm
    ·exact .inl (q m hm)
    ·rcases QO.1 hm with rfl|hm
     ·exact .inr ⟨i,Ae,rfl⟩
     ·grind
   ·exact h.elim
theorem bB5{g:List Nat}(H:hvOf hv d=some g)(s:memR 88888 g=false){f:FuncId}{xs:List V}(h:kY T P (.drawn hv) σ d f xs (Is v ms)):∀m∈ms,m.fresh σ\/∃i∈g,m.isB i:=by
 rcases h.out with⟨ys,r,lend,C,z,G,h4⟩|⟨c,_⟩|⟨ys,is,bs,r,B,c,C,z,G,h4⟩|⟨c,_⟩
 case inr.inr.inr=>cases c
 ·have hc:=z
  simp only[sO,Md.light,QN,SG,Ud]at hc
  have q:bD ys xs=[] :=by
   grind [SX,iL,Rn]
  have D:cond lend [] (aV σ (bK ys xs))=[] :=KQ
  have e:∀(ms:List Mod),appR (cond lend [] (aV σ (bK ys xs))) (appR (aX σ (bD ys xs)) ms)=ms:=λms=>by
   rw[D,q];rfl
  have u:reuse σ (bD ys xs)=none:=by rw[q];rfl
  simp only[e,u]at h4;obtain⟨N,j,⟨_,q1⟩,q2,M⟩:=bO7 h4;simp_all
 ·cases c
 ·unfold Md.may at c
  simp only[H,s,Bool.false_or,QN]at c;obtain⟨⟨E,y⟩,A⟩:=c;have q:ownG ((xs,ys)::eU σ.bx bs is)=[] :=by rw[SX,iL]at y;exact Rn.1 y
  have J:mF ((xs,ys)::eU σ.bx bs is)=[] :=by rw[SX,iL]at A;exact Rn.1 A
  have t:∀i∈is,i∈g:=λi hi=>pM.1 (dY.1 E i hi);rw[q,J]at h4
  have hfin:∀(a b:List Mod),(∀m∈a,∃k en,m= .a k en/\σ.ar k=none)->(∀m∈b,(∃k en,m= .a k en/\σ.ar k=none)\/∃i∈is,m.isB i)->∀m∈appR (aV σ []) (appR (aX σ []) (appR a b)),m.fresh σ\/∃i∈g,m.isB i:=by
   intro a b I L m F;have l:m∈appR a b:=F;rw[bT]at l;rcases QJ.1 l with h|h
   ·obtain⟨k,en,rfl,e⟩:=I m h
    exact .inl e
   ·rcases L m h with⟨k,en,rfl,e⟩|⟨i,hi,w⟩
    ·exact .inl e
    ·exact .inr ⟨i,t i hi,w⟩
  unfold aX2 at h4;split at h4
  ·obtain⟨vs,j,h4,q1⟩:=aJ7 h4
   exact PZ
  ·obtain⟨vs,j,h4,q1⟩:=aJ7 h4
   cases vs with
   |nil=>exact h4.elim
   |cons x xr=>
    exact PZ
theorem bI3{t:TypeId}{x:Operand}{f:Nat}(h:bW T P (.drawn hv) σ d (.fieldAddr t x f) (Is v ms)):ms=[] :=by
 have h':opVC T σ d (.fieldAddr t x f) (Is v ms):=h;unfold opVC at h'
 have hm:Mo (λms=>ms=[]) (λK=>cond (Nat.blt t (T.n t)) (jB (T.row t) (σ.ev x) f K) False):=by
  refine Mo.cond ?_ Mo.false;unfold jB;split
  ·refine Mo.cond Mo.false ?_
   split
   ·exact Mo.ret _ rfl
   ·exact Mo.bJ λl=>Mo.ret _ rfl
   ·exact Mo.ret _ rfl
   ·exact Mo.false
  ·exact Mo.false
 exact O8
theorem bQ7{x:Operand}(h:bW T P (.drawn hv) σ d (.move x) (Is v ms)):ms=[] :=by
 have a:force (σ.ev x) (λv'=>Is v ms v' []):=h;rw[force_eq]at a;exact a.2.symm
theorem aH1{x:Operand}(h:bW T P (.drawn hv) σ d (.nilCheck x) (Is v ms)):ms=[] :=by
 have a:cond (dE6 (σ.ev x)) (force (σ.ev x) (λv'=>Is v ms v' [])) False:=h;obtain⟨_,a⟩:=aT a;rw[force_eq]at a;exact a.2.symm
theorem yI{c:List Nat}(a:aI5 cl c p.op=true):(∀(σ:St) d v ms,bW T P (.drawn hv) σ d p.op (Is v ms)->ms=[])/\hvO hv p=false/\
 (cls p.op<=1\/∃i,i∉c/\∀σ:St,Good cl σ->∀x∈p.op.operands,(σ.ev x).ok (λj=>j=i) (λ_ _=>False)):=by
 unfold aI5 at a;split at a
 ·rename_i t u hop
  split at a
  ·rename_i i hi
   rw[QN]at a;obtain⟨b,a⟩:=a;refine⟨λσ d v ms h=>by rw[hop]at h;exact bS5 h,CX, .inr ⟨i,λe=>by simp[e]at a,λσ f x hx=>?_⟩⟩
   rw[hop]at hx;have:x= .tmp u:=FX;subst this;exact f.ne hi (by simpa using b)
  ·cases a
 ·rename_i hop
  exact⟨λσ d v ms h=>by rw[hop]at h;exact bI3 h,CX, .inl EC⟩
 ·rename_i hop
  exact⟨λσ d v ms h=>by rw[hop]at h;exact bQ7 h,CX, .inl EC⟩
 ·rename_i hop
  exact⟨λσ d v ms h=>by rw[hop]at h;exact aH1 h,CX, .inl EC⟩
 ·cases a
theorem wG(a:aI7 p.op=true):(∀(σ:St) d v ms,bW T P (.drawn hv) σ d p.op (Is v ms)->ms=[])/\hvO hv p=false/\cls p.op<=1:=by
 unfold aI7 at a;split at a
 ·rename_i hop
  exact⟨λσ d v ms h=>by rw[hop]at h;exact bI3 h,CX,EC⟩
 ·rename_i hop
  exact⟨λσ d v ms h=>by rw[hop]at h;exact bQ7 h,CX,EC⟩
 ·rename_i hop
  exact⟨λσ d v ms h=>by rw[hop]at h;exact aH1 h,CX,EC⟩
 ·cases a
theorem bE8(a:aI7 p.op=true)(h:Eff T P hv n ops p σ v ms):ms=[] :=by
 unfold Eff at h;obtain⟨_,h⟩:=h;split at h
 ·exact(wG (T:=T) (P:=P) (hv:=hv) a).1 _ _ _ _ h
 ·obtain⟨s,_,h⟩:=h
  rcases h with⟨_,h⟩|⟨_,_,h⟩
  ·exact(wG (T:=T) (P:=P) (hv:=hv) a).1 _ _ _ _ h
  ·exact h
theorem bU6{b:List Nat}(a:aI5 cl b p.op=true)(h:Eff T P hv n ops p σ v ms):ms=[] :=by
 unfold Eff at h;obtain⟨_,h⟩:=h;split at h
 ·exact(yI (T:=T) (P:=P) (hv:=hv) a).1 _ _ _ _ h
 ·obtain⟨s,_,h⟩:=h
  rcases h with⟨_,h⟩|⟨_,_,h⟩
  ·exact(yI (T:=T) (P:=P) (hv:=hv) a).1 _ _ _ _ h
  ·exact h
theorem bP4{k:List Nat}(e:blOf hv o=some k)(h:Eff T P hv n ops o σ v ms):∀m∈ms,m.fresh σ\/∃i∈k,m.isB i:=by
 unfold blOf at e;split at e
 ·rename_i d q u
  obtain⟨e,j⟩:hvOf hv d=some k/\memR 88888 k=false:=by
   grind
  have key:bW T P (.drawn hv) σ (o.dst.getD n) o.op (Is v ms)->∀m∈ms,m.fresh σ\/∃i∈k,m.isB i:=by
   intro h;rw[u]at h;simp only[TY]at h;unfold aG7 at q;split at q
   ·rename_i r s w l
    rw[l]at h
    cases r with
    |func f=>
     have a:bJ (mapR σ.ev s.toList) (λxs=>kY T P (.drawn hv) σ d f xs (Is v ms)):=h;rw[bC]at a;exact bB5 e j a
    |tmp t=>
     have a:(match σ.env t with
      | .fn g b=>cond (isFnC b) (bJ (mapR σ.ev s.toList) λxs=>kY T P (.drawn hv) σ d g (argsV b xs) (Is v ms)) False
      |_=>False):=h
     split at a
     ·obtain⟨_,a⟩:=aT a
      rw[bC]at a;exact bB5 e j a
     ·exact a.elim
    |const c=>exact(h:False).elim
    |global g=>exact(h:False).elim
   ·cases q
  grind [Eff]
 ·cases e
theorem cX5{x:Operand}(hx:x∈o.op.operands)(h:∀t,p.dst=some t->t∉o.looksAt ops.toArray):(σ.put p.dst v ms).ev x=σ.ev x:=by
 cases x with
 |tmp t=>
  refine bU _ _ _ _ (λe=>h t e ?_);exact OT
 |const v=>rfl
 |global g=>rfl
 |func f=>rfl
theorem eM0(wf:∀x:Operand,(σ.ev x).ok σ.hasB σ.hasA)(y:Good cl σ)(f:Oper.apart ops.toArray p o=true){r:List Nat}(z:blOf hv o=some r)(hq:aI5 cl r p.op=true)
 (t:Eff T P hv n ops p σ v ms)(h2:Eff T P hv n ops o (σ.put p.dst v ms) v' ms'):
 Eff T P hv n ops o σ v' ms'/\Eff T P hv n ops p (σ.put o.dst v' ms') v ms/\(σ.put p.dst v ms).put o.dst v' ms'=(σ.put o.dst v' ms').put p.dst v ms:=by
 obtain⟨hp1,u,w⟩:=TP f;have l:=bU6 hq t;subst l;obtain⟨_,hnp,c⟩:=yI (T:=T) (P:=P) (hv:=hv) hq;have b1:(σ.put p.dst v []).bx=σ.bx:=Fj
 have a1:(σ.put p.dst v []).ar=σ.ar:=Fp;have s:Eff T P hv n ops o σ v' ms':=Jr
 have hmo:=bP4 z s;refine⟨s,?_,?_⟩
 ·refine mW (σ:=σ) (λhq=>Et) ?_ ?_ ?_ t
  ·grind [bU]
  ·intro A x hx
   rcases c with c|⟨i,hi,c⟩
   ·omega
   ·have q:=c σ y x hx
    have e:=wf x;refine V.ok.imp ?_ ?_ _ (cD8 q e)
    ·rintro j ⟨rfl,cs,hj⟩
     rw[lT];refine jJ _ _ _ (λm hm hbm=>?_);exact Qk
    ·rintro k g ⟨h,_⟩;exact h.elim
  ·intro m hm;cases hm
 ·grind [put_comm]
theorem eS5(wf:∀x:Operand,(σ.ev x).ok σ.hasB σ.hasA)(w:Good cl σ)(e:Oper.apart ops.toArray p o=true){r:List Nat}(y:blOf hv p=some r)(hq:aI5 cl r o.op=true)
 (h1:Eff T P hv n ops p σ v ms)(s:Eff T P hv n ops o (σ.put p.dst v ms) v' ms'):
 Eff T P hv n ops o σ v' ms'/\Eff T P hv n ops p (σ.put o.dst v' ms') v ms/\(σ.put p.dst v ms).put o.dst v' ms'=(σ.put o.dst v' ms').put p.dst v ms:=by
 obtain⟨f,t,u⟩:=TP e;have l:=bU6 hq s;subst l;obtain⟨_,hno,c⟩:=yI (T:=T) (P:=P) (hv:=hv) hq;have hmo:=bP4 y h1
 have b1:(σ.put o.dst v' []).bx=σ.bx:=Fj;have a1:(σ.put o.dst v' []).ar=σ.ar:=Fp
 refine⟨?_,?_,?_⟩
 ·refine mW (σ:=σ.put p.dst v ms) (λhq=>Es) ?_ ?_ ?_ s
  ·grind [bU]
  ·intro z x hx
   rw[cX5 hx f];rcases c with c|⟨i,hi,c⟩
   ·omega
   ·have q:=c σ w x hx
    refine V.ok.imp ?_ ?_ _ (cD8 q (wf x))
    ·rintro j ⟨rfl,cs,hj⟩
     rw[lT];refine(jJ _ _ _ (λm hm hbm=>?_)).symm;exact Qk
    ·rintro k g ⟨h,_⟩;exact h.elim
  ·intro m hm;cases hm
 ·exact JA
 ·grind [put_comm]
theorem eR7(wf:∀x:Operand,(σ.ev x).ok σ.hasB σ.hasA)(c:Oper.apart ops.toArray p o=true)(f:aI7 p.op=true)
 (q:Eff T P hv n ops p σ v ms)(h2:Eff T P hv n ops o (σ.put p.dst v ms) v' ms'):
 Eff T P hv n ops o σ v' ms'/\Eff T P hv n ops p (σ.put o.dst v' ms') v ms/\(σ.put p.dst v ms).put o.dst v' ms'=(σ.put o.dst v' ms').put p.dst v ms:=by
 obtain⟨hp1,g,i⟩:=TP c;have e:=bE8 f q;subst e;obtain⟨_,l,k⟩:=wG (T:=T) (P:=P) (hv:=hv) f;have b1:(σ.put p.dst v []).bx=σ.bx:=Fj
 have a1:(σ.put p.dst v []).ar=σ.ar:=Fp;have r:Eff T P hv n ops o σ v' ms':=Jr
 grind [mW,bU,put_comm]
theorem eO9(wf:∀x:Operand,(σ.ev x).ok σ.hasB σ.hasA)(c:Oper.apart ops.toArray p o=true)(f:aI7 o.op=true)
 (h1:Eff T P hv n ops p σ v ms)(r:Eff T P hv n ops o (σ.put p.dst v ms) v' ms'):
 Eff T P hv n ops o σ v' ms'/\Eff T P hv n ops p (σ.put o.dst v' ms') v ms/\(σ.put p.dst v ms).put o.dst v' ms'=(σ.put o.dst v' ms').put p.dst v ms:=by
 obtain⟨k,g,i⟩:=TP c;have e:=bE8 f r;subst e;obtain⟨_,l,q⟩:=wG (T:=T) (P:=P) (hv:=hv) f;have b1:(σ.put o.dst v' []).bx=σ.bx:=Fj
 have a1:(σ.put o.dst v' []).ar=σ.ar:=Fp;refine⟨?_,?_,?_⟩
 ·grind [mW,bU]
 ·exact JA
 ·grind [put_comm]
end
def Real(T:Tab)(Φ:Fr)(σ:St):Prop:=∃a w G,Inv T Φ σ a w G
section
variable{T:Tab}{P:Program}{Φ:Fr}{σ:St}{a:Act}{w w':World}{G G':Gh}{o:Oper}{d:Nat}{v:V}{ms:List Mod}{ops:List Oper}{K:St->Prop}{hv:List (Nat×List Nat)}
theorem Real.wf(h:Real T Φ σ)(x:Operand):(σ.ev x).ok σ.hasB σ.hasA:=by
 obtain⟨a,w,G,inv⟩:=h;exact(inv.ev x).2
theorem bW2(hT:bP T P)(hr:Real T Φ σ)(hd:∀d,o.dst=some d->Φ.wr d)(h:bW T P (.drawn hv) σ d o.op (Is v ms)):Real T Φ (σ.put o.dst v ms):=by
 obtain⟨a,w,G,inv⟩:=hr;unfold bW at h;split at h
 ·rename_i f n r k
  rw[bC,dU]at h;obtain⟨m,hcalls⟩:=bF2 inv n h;exact OL
 ·split at h
  ·rename_i g j i
   obtain⟨b,h⟩:=aT h;rw[bC,dU]at h;obtain⟨z,u,y,m,hcalls⟩:=aX3 inv i b h;exact OL
  ·exact h.elim
 ·rename_i t x lo hi s k
  exact Oz
 ·rename_i l t x c q k
  exact Oz
 ·obtain⟨v',w1,v1,ms1,G',hr,⟨rfl,rfl⟩,inv',hv,hvo⟩:=xQ hT inv o h
  exact⟨_,_,_,Inv.put' _ inv' hd hv hvo⟩
theorem dY4(i:bP T P)(e:Real T Φ σ)(c:∀d,o.dst=some d->Φ.keep d=none)(h:Eff T P hv Φ.n ops o σ v ms):Real T Φ (σ.put o.dst v ms):=by
 unfold Eff at h;obtain⟨k,f⟩:=h;have g:∀d,o.dst=some d->Φ.wr d:=λd h=>⟨k d h,c d h⟩;split at f
 ·exact bW2 i e g f
 ·obtain⟨s,l,b⟩:=f
  rcases b with⟨b,j⟩|⟨b,rfl,rfl⟩
  ·exact bW2 i e g j
  ·obtain⟨a,w,G,inv⟩:=e
   exact⟨_,_,_,Inv.put' [] inv g (xK w G) Ep⟩
def RunI(T:Tab)(P:Program)(hv:List (Nat×List Nat))(n:Nat)(ops:List Oper):List Nat->St->(St->Prop)->Prop
 | [],σ,K=>K σ
 |i::r,σ,K=>∃o v ms,ops[i]? =some o/\Eff T P hv n ops o σ v ms/\RunI T P hv n ops r (σ.put o.dst v ms) K
def Compat(cl:List (Nat×Nat))(hv:List (Nat×List Nat))(ops:List Oper)(j i:Nat):Prop:=∀p o,ops[j]? =some p->ops[i]? =some o->Oper.apart ops.toArray p o=true/\(clash (clsH hv p) (clsH hv o)=false\/((aM7 cl p.op o.op=true\/fL7 cl p.op o.op=true\/fY1 p.op o.op=true)/\hvO hv p=false/\hvO hv o=false)\/dJ2 cl hv p o=true)
theorem front(D:bP T P)(t:∀o∈ops,∀d,o.dst=some d->Φ.keep d=none){x:List (Nat×Nat)}(z:∀o∈ops,aL7 T x o=true){i:Nat}{C:List Nat}:∀(q:List Nat) (σ:St),Real T Φ σ->Good x σ->(∀j∈q,Compat x hv ops j i)->RunI T P hv Φ.n ops (q++i::C) σ K->
 ∃o v ms,ops[i]? =some o/\Eff T P hv Φ.n ops o σ v ms/\RunI T P hv Φ.n ops (q++C) (σ.put o.dst v ms) K:=by
 intro q
 induction q with
 |nil=>intro σ _ _ _ h;exact h
 |cons j r I=>
  intro σ f u B h;obtain⟨p,v,ms,s,g,h⟩:=h;obtain⟨o,v',e,E,c,h⟩:=I _ (dY4 D f (t p (QF s)) g) (cG5 f.wf u (z p (QF s)) g) (λk F=>B k (by simp[F])) h
  obtain⟨l,b⟩:=B j Ae p o s E
  obtain⟨M,J,L⟩:Eff T P hv Φ.n ops o σ v' e/\Eff T P hv Φ.n ops p (σ.put o.dst v' e) v ms/\(σ.put p.dst v ms).put o.dst v' e=(σ.put o.dst v' e).put p.dst v ms:=by
   rcases b with b|⟨b,y,A⟩|b
   ·exact swap f.wf l b g c
   ·rcases b with b|b|b
    ·exact dL0 y A f.wf u l b g c
    ·exact gE0 y A f.wf (dY4 D f (t p (QF s)) g).wf u l b g c
    ·exact gJ0 y A f.wf l b g c
   ·unfold dJ2 at b
    rw[Ud,Ud,Ud]at b;rcases b with(b|b)|(b|b)
    rotate_left 2
    ·exact eR7 f.wf l b g c
    ·exact eO9 f.wf l b g c
    ·split at b
     ·rename_i H m
      exact eM0 f.wf u l m b g c
     ·cases b
    ·split at b
     ·rename_i H m
      exact eS5 f.wf u l m b g c
     ·cases b
  refine⟨o,v',e,E,M,p,v,ms,s,J,?_⟩;rw[<-L];exact h
theorem eA9(K:St->Prop):∀(l:List Oper) (k:Nat) (σ:St),(∀j,l[j]? =ops[k+j]?)->Run T P (.drawn hv) Φ.n ops l σ K->RunI T P hv Φ.n ops (List.range' k l.length) σ K:=by
 intro l
 induction l with
 |nil=>intro k σ _ h;exact h
 |cons o r e=>
  intro k σ c h;obtain⟨v,ms,f,h⟩:=eI5 h;have b:=c 0;simp only[Uw,Tq]at b;refine⟨o,v,ms,b.symm,f,?_⟩;refine e (k+1) _ (λj=>?_) h;have:=c (j+1)
  grind
theorem bL5{ms:List Nat}{o:Oper}{j:Nat}(h:(bW4 ms o).testBit j=true):∃e∈o.after,Region.binds .any e=true/\(j=e.on\/(ms.getD e.on 0).testBit j=true):=by
 unfold bW4 at h;rw[<-Array.foldl_toList]at h
 have gen:∀(l:List Edge) (m:Nat),(l.foldl (λm e=>if Region.binds .any e then m|||2^e.on|||ms.getD e.on 0 else m) m).testBit j=true->m.testBit j=true\/∃e∈l,Region.binds .any e=true/\(j=e.on\/(ms.getD e.on 0).testBit j=true):=by
  intro l
  induction l with
  |nil=>intro m h;exact .inl h
  |cons e r c=>
   intro m h;rw[RF]at h;rcases c _ h with h|⟨f,b,h⟩
   ·grind
   ·exact .inr ⟨f,by simp[b],h⟩
 grind
theorem cI3{L R:Nat->Prop}(q:∀i o,ops[i]? =some o->R i->∀e∈o.after,Region.binds .any e=true->L e.on)(p:∀i,L i->R i):
 ∀(l pre:List Oper) (ms:List Nat),ops=pre++l->ms.length=pre.length->(∀k j,R k->(ms.getD k 0).testBit j=true->L j)->
  ∀k j,R k->((l.foldl (λms o=>ms++[bW4 ms o]) ms).getD k 0).testBit j=true->L j:=by
 intro l
 induction l with
 |nil=>intro pre ms _ _ h;exact h
 |cons o r n=>
  intro pre ms b c h;rw[RF];refine n (pre++[o]) _ (by simp[b]) (by simp[c]) ?_
  intro k j f s;by_cases e:k=ms.length
  ·grind [bL5]
  ·refine h k j f ?_
   rcases Ry k ms.length with g|m
   ·grind
   ·grind
theorem qX{b:List (Nat×Nat)}(h:oO T b hv ops=true):(∀o∈ops,aL7 T b o=true)/\∀(k:Nat) (o:Oper),ops[k]? =some o->(∀e∈o.after,Region.binds .any e=true->e.on<k)/\
 ∀(i:Nat) (p:Oper),i<k->ops[i]? =some p->((masks ops).getD k 0).testBit i=true\/(Oper.apart ops.toArray p o=true/\(clash (clsH hv p) (clsH hv o)=false\/((aM7 b p.op o.op=true\/fL7 b p.op o.op=true\/fY1 p.op o.op=true)/\hvO hv p=false/\hvO hv o=false)\/dJ2 b hv p o=true)):=by
 unfold oO at h;simp only[TT,QN]at h;refine⟨h.1,?_⟩;intro k o j;have c:=h.2 (o,k) (List.mem_zipIdx_iff_getElem?.2 j);simp only[QN,TT,Array.all_eq_true_iff_forall_mem]at c;refine⟨λe l g=>?_,λi p hi f=>?_⟩
 ·have:=c.1.1 e l
  simp[g]at this;exact this
 ·have:=c.2 (p,i) (List.mem_zipIdx_iff_getElem?.2 (by rw[List.getElem?_take_of_lt hi];exact f))
  simp only[Ud,QN,Bool.not_eq_true']at this;grind
def rem(n:Nat)(listed:Array Bool):List Nat:=(List.range n).filter λi=> !listed.getD i true
theorem aF4{n:Nat}{b:Array Bool}{i:Nat}:i∈rem n b↔i<n/\b.getD i true=false:=by
 simp[rem]
theorem cI0{c:Array Bool}{i j:Nat}{b:Bool}(hi:i<c.size):(c.setIfInBounds i true).getD j b=if j=i then true else c.getD j b:=by
 rw[SQ,SQ,Array.getElem?_setIfInBounds];grind
theorem eP7{n:Nat}{b:Array Bool}{i:Nat}(hi:i<b.size){c f:List Nat}(h:rem n b=c++i::f):rem n (b.setIfInBounds i true)=c++f:=by
 have k:rem n (b.setIfInBounds i true)=(rem n b).filter λj=> !decide (j=i):=by
  unfold rem;rw[List.filter_filter];apply List.filter_congr;intro j _;rw[cI0 hi];by_cases e:j=i<;>simp[e]
 have g:(rem n b).Nodup:=List.Pairwise.filter _ List.nodup_range;grind [List.nodup_append,List.filter_eq_self,List.nodup_cons]
theorem dQ0(hT:bP T P)(ro:Option Nat)(U:∀o∈ops,∀d,o.dst=some d->Φ.keep d=none){f:Array Oper}(hA:f.toList=ops){X:List (Nat×Nat)}(hr:oO T X hv ops=true){Q:Exit->Act->World->Prop}(hQ:∀c E w' G',K c->Inv T Φ c E w' G'->Q .normal E w'):
 ∀(g:Nat) (b:Array Bool) (σ:St) (a:Act) (w:World) (G:Gh),Inv T Φ σ a w G->Good X σ->b.size=ops.length->
  (∀i o,ops[i]? =some o->b.getD i true=true->∀e∈o.after,Region.binds .any e=true->b.getD e.on false=true)->
  (rem ops.length b).length<=g->RunI T P hv Φ.n ops (rem ops.length b) σ K->wpAnyIn (FW ro) 0 P .any f Q g b a w:=by
 have ab:f.size=ops.length:=by rw[<-hA];simp
 have A:∀i,f[i]? =ops[i]? :=λi=>by rw[<-hA,TD]
 have l:∀(b:Array Bool) i,i∈Region.ready .any f b↔(i∈rem ops.length b/\∃o,ops[i]? =some o/\∀e∈o.after,Region.binds .any e=true->b.getD e.on false=true):=by
  intro b i;unfold Region.ready;rw[List.mem_filter,Sl,aF4,ab,A]
  cases h:ops[i]? with
  |none=>simp
  |some o=>
   simp only[QN,Bool.not_eq_true',Sr,TY,Array.all_eq_true_iff_forall_mem];grind
 have aa:∀(b:Array Bool),b.size=ops.length->Region.ready .any f b=[]->rem ops.length b=[] :=by
  intro b y t
  cases B:rem ops.length b with
  |nil=>rfl
  |cons i r=>
   exfalso;have hi:i∈rem ops.length b:=by rw[B];simp
   obtain⟨h1,h2⟩:=aF4.1 hi;have z:(rem ops.length b).Pairwise (·<·):=List.Pairwise.filter _ List.pairwise_lt_range;rw[B]at z
   have C:i∈Region.ready .any f b:=by
    rw[l];refine⟨hi,ops[i],Io,λe M J=>?_⟩;have al:=((qX hr).2 i ops[i] Io).1 e M J
    cases Z:b.getD e.on false with
    |true=>rfl
    |false=>
     exfalso
     have hm:e.on∈rem ops.length b:=aF4.2 ⟨Aa,by
      have O:e.on<b.size:=Aa;simp[O]at Z⊢;exact Z⟩
     grind [RH]
   rw[t]at C;cases C
 intro g
 induction g with
 |zero=>
  intro b σ a w G inv _ y af m h;have h0:rem ops.length b=[] :=Rn.1 Aa;rw[h0]at h;refine⟨?_,hQ σ a w G h inv⟩;simp_all [List.eq_nil_iff_forall_not_mem]
 |succ g ih=>
  intro b σ a w G inv N y af m h;refine⟨λt=>?_,λi hi=>?_⟩
  ·rw[aa b y t]at h
   exact hQ σ a w G h inv
  ·obtain⟨W,o,I,S⟩:=(l b i).1 hi
   obtain⟨am,ah⟩:=aF4.1 W;obtain⟨Y,l2,s⟩:=List.append_of_mem W;have z:(rem ops.length b).Pairwise (·<·):=List.Pairwise.filter _ List.pairwise_lt_range;rw[s]at z
   have F:∀j∈Y,Compat X hv ops j i:=by
    intro j hj p o' hp u;rw[I]at u;cases u;have ad:j<i:=(Rx.1 z).2.2 j hj i Ae;rcases((qX hr).2 i o I).2 j p ad hp with J|J
    ·exfalso
     have ae:j∈rem ops.length b:=by rw[s];simp[hj]
     have ai:=(aF4.1 ae).2
     have:=cI3 (ops:=ops) (L:=λk=>b.getD k false=true) (R:=λk=>b.getD k false=true\/k=i) (by
      rintro k o' x (hR|rfl) e M ag
      ·grind
      ·rw[I]at x;cases x
       exact S e M ag) (λk x=> .inl x) ops [] [] rfl rfl Ae i j (.inr rfl) J
     grind
    ·exact J
   rw[s]at h;obtain⟨o',v,ms,u,M,H⟩:=front hT U (qX hr).1 Y σ ⟨a,w,G,inv⟩ N F h;rw[I]at u;cases u;have ac:=eE8 (K:=λc=>RunI T P hv Φ.n ops (Y++l2) c K/\Good X c) M ⟨H,cG5 (Real.wf ⟨a,w,G,inv⟩) N ((qX hr).1 o (QF I)) M⟩
   have D:=bZ3 hT inv hA (U o (QF I)) ac (Q:=Q) ro;have V:=eP7 (n:=ops.length) (by omega:i<b.size) s
   have next:∀E w' c G',(RunI T P hv Φ.n ops (Y++l2) c K/\Good X c)->Inv T Φ c E w' G'->wpAnyIn (FW ro) 0 P .any f Q g (b.setIfInBounds i true) E w':=by
    intro E w' c G' x q;refine ih _ c E w' G' q x.2 (by simp[y]) ?_ ?_ ?_
    ·intro k ok ak Z e aj J
     rw[cI0 Aa]at Z⊢;grind
    ·rw[V]
     rw[s]at m;simp at m⊢;omega
    ·rw[V];exact x.1
   unfold wpOpIn;rw[A,I];simp only;split
   ·rename_i hw
    rw[Q9 hw]at D;grind [Oper.wpIn_mono]
   ·rename_i hw
    rw[Q5 hw]at D;obtain⟨G',c,x,q⟩:=D;exact⟨λ_ _=>trivial,next _ _ c G' x q⟩
theorem bC4(r:bP T P)(j:Option Nat)(p:P.follows .mixedOrders=true){ops:List Oper}{K:St->Prop}{b:Array Oper}(l:b.toList=ops)(g:∀o∈ops,∀d,o.dst=some d->Φ.keep d=none){k:List (Nat×Nat)}(s:oO T k hv ops=true)(f:Good k σ){Q:Exit->Act->World->Prop}(q:∀e m w' G',K e->Inv T Φ e m w' G'->Q .normal m w')(id:Nat)
 (inv:Inv T Φ σ a w G)(h:Run T P (.drawn hv) Φ.n ops ops σ K):(Code.region id b true).wpIn (FW j) 0 P Q a w:=by
 have c:b.size=ops.length:=by rw[<-l];simp
 refine wpIn_region_any p (dQ0 r j g l s q _ _ σ a _ G (inv.drew _) f (by simp[c]) ?_ ?_ ?_)
 ·intro i o hi t
  have:i<ops.length:=(QD.1 hi).1;simp[c,this]at t
 ·refine QV (List.length_filter_le _ _) ?_
  simp[c]
 ·have:rem ops.length (Array.replicate b.size false)=List.range' 0 ops.length:=by
   unfold rem;rw[List.range_eq_range'];simp_all
  grind [eA9]
end
end Go.Ab
