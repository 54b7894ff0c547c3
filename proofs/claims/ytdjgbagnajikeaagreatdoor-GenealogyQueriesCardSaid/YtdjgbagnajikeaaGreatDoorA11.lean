/-
  A load from one variable of the call, and a store to another one or an append, may change places.
-/
import Derived.Test.YtdjgbagnajikeaaGreatDoorA10
set_option linter.unusedVariables false
set_option linter.unusedSimpArgs false
noncomputable section
namespace Go.Ab
def Good(cl:List (Nat×Nat))(σ:St):Prop:=∀u i,claim cl u=some i->(σ.env u).ok (fun j=>j=i) (fun _ _=>i=77777)
theorem Good.ne{cl:List (Nat×Nat)}{σ:St}(h:Good cl σ){u i:Nat}(hu:claim cl u=some i)(hi:Nat.beq i 77777=false):(σ.env u).ok (fun j=>j=i) (fun _ _=>False):=
 V.ok.imp (fun _ h=>h) (fun _ _ h=>by subst h;cases hi) _ (h u i hu)
section
variable{T:Tab}{P:Program}{σ σ':St}{n d:Nat}{v v':V}{ms ms':List Mod}{ops:List Oper}{o p:Oper}{K:St->Prop}{cl:List (Nat×Nat)}{hv:List (Nat×List Nat)}
theorem dC3{env:Nat->V}{bx:Nat->Option (List V)}{ar:Nat->Option AE}{p:Nat->Prop}{q:Nat->Nat->Prop}(wf:∀s,(env s).ok p q)(h:cO4 cl env):Good cl ⟨env,bx,ar⟩:=by
 induction cl with
 |nil=>intro u i hu;cases hu
 |cons q r ih=>
  intro u i hu;have h':okB q.2 (env q.1)/\cO4 r env:=h;unfold claim at hu;rw[List.find?_cons]at hu
  cases hq:Nat.beq q.1 u with
  |true=>
   rw[hq]at hu;have:=Nat.eq_of_beq_eq_true hq;subst this;cases hu;have h1:=h'.1
   show(env q.1).ok _ _;have hwf:=wf q.1;generalize env q.1=x at h1 hwf⊢;unfold okB at h1;split at h1
   ·subst h1;simp only[V.ok]
   ·simp only[V.ok]
   ·simp only[V.ok,V.okL]
   ·simp only[V.ok]
   ·simp only[V.ok]at hwf⊢;exact hwf
   ·simp only[V.ok]at hwf⊢;exact hwf
   ·simp only[V.ok]at hwf⊢;exact hwf
   ·simp only[V.ok];exact h1
   ·simp only[V.ok];exact h1
   ·exact h1.elim
  |false=>
   rw[hq]at hu;exact ih h'.2 u i hu
theorem dQ7{r:Row}{x:V}{f:Nat}{i:Nat}(hx:x.ok (fun j=>j=i) (fun _ _=>i=77777))(h:jB r x f (Is v ms)):v.ok (fun j=>j=i) (fun _ _=>i=77777):=by
 unfold jB at h;split at h
 ·rename_i o z q _ _
  cases hz:Nat.beq z 0 with
  |true=>rw[hz]at h;exact h.elim
  |false=>
   rw[hz]at h;simp only[cond_false]at h;split at h
   ·obtain⟨rfl,_⟩:=h
    simp only[V.ok]at hx⊢;exact hx
   ·rw[bC]at h
    exact Ny
   ·obtain⟨rfl,_⟩:=h
    simp only[V.ok]at hx⊢;exact hx
   ·exact h.elim
 ·exact h.elim
theorem eC5(u:Value)(p:Nat->Prop)(q:Nat->Nat->Prop):(dD8 u).ok p q:=by
 unfold dD8;split
 ·rename_i cs
  cases allR Value.oneCell' cs.toList with
  |false=>simp only[cond_false,V.ok]
  |true=>
   simp only[cond_true,V.ok];rw[dU,aH];intro x hx;obtain⟨v,_,rfl⟩:=List.mem_map.1 hx;simp only[V.ok]
 ·simp only[V.ok]
 ·simp only[V.ok]
theorem aC5(hg:Good cl σ){x:Operand}{i:Nat}(h:zO cl x i=true):(σ.ev x).ok (fun j=>j=i) (fun _ _=>i=77777):=by
 unfold zO at h;split at h
 ·rename_i u
  split at h
  ·rename_i j hj
   have:=Nat.eq_of_beq_eq_true h;subst this;exact hg u i hj
  ·cases h
 ·exact eC5 _ _ _
 ·cases h
theorem fZ4(hg:Good cl σ){x:Operand}{i:Nat}(hi:Nat.beq i 77777=false)(h:zO cl x i=true):(σ.ev x).ok (fun j=>j=i) (fun _ _=>False):=
 V.ok.imp (fun _ h=>h) (fun _ _ h=>by subst h;cases hi) _ (aC5 hg h)
theorem fY0{r:Row}{x y:V}{p:Nat->Prop}{q:Nat->Nat->Prop}(hx:x.ok p q)(hk:dG6 r.kd=true)(h:gI T r σ x y (Is v ms)):v.ok (fun _=>False) (fun _ _=>True):=by
 have el:∀ {l:List V} {z:V} {k:Nat},V.okL (fun _=>False) (fun _ _=>False) l->l[k]? =some z->V.okL (fun _=>False) (fun _ _=>False) z.cells:=by
  intro l z k hl hz;exact MH
 unfold gI at h;split at h
 ·split at h
  ·exact Ji
  ·exact Ji
  ·split at h
   ·obtain⟨_,h⟩:=aT (dX h).2
    obtain⟨rfl,_⟩:=h;simp only[V.ok]
   ·exact h.elim
  ·exact h.elim
 ·rename_i hkd
  rw[hkd]at hk;cases hk
 ·exact h.elim
theorem dQ8{r:Row}{x y:V}{i:Nat}(hx:x.ok (fun j=>j=i) (fun _ _=>i=77777))(h:gI T r σ x y (Is v ms)):v.ok (fun j=>j=i) (fun _ _=>i=77777):=by
 have el:∀ {l:List V} {z:V} {k:Nat},V.okL (fun _=>False) (fun _ _=>False) l->l[k]? =some z->V.okL (fun _=>False) (fun _ _=>False) z.cells:=by
  intro l z k hl hz;exact MH
 unfold gI at h;split at h
 ·split at h
  ·exact Il
  ·exact Il
  ·simp only[V.ok]at hx
   split at h
   ·obtain⟨_,h⟩:=aT (dX h).2
    obtain⟨rfl,_⟩:=h;simp only[V.ok];exact hx
   ·exact h.elim
  ·exact h.elim
 ·split at h
  ·rename_i k off
   cases hb:(Nat.blt _ r.alen&&Nat.blt r.elem (T.n r.elem))with
   |false=>rw[hb]at h;exact h.elim
   |true=>
    rw[hb]at h;obtain⟨rfl,_⟩:=h;simp only[V.ok]at hx⊢;exact hx
  ·cases hb:(Nat.blt _ r.alen&&Nat.blt r.elem (T.n r.elem))with
   |false=>rw[hb]at h;exact h.elim
   |true=>
    rw[hb]at h;simp only[cond_true]at h;rw[bC]at h;exact Ny
  ·exact h.elim
 ·exact h.elim
theorem bC3{d i:Nat}{xs:List V}(hd:d=i)(h:lM σ d xs (Is v ms)):v.ok (fun j=>j=i) (fun _ _=>False):=by
 unfold lM at h;split at h
 ·rw[bC]at h
  cases hb:allR V.one xs with
  |false=>rw[hb]at h;exact h.elim
  |true=>
   rw[hb]at h;obtain⟨rfl,_⟩:=h;simp only[V.ok];exact hd
 ·exact h.elim
theorem cG5(wf:∀x:Operand,(σ.ev x).ok σ.hasB σ.hasA)(hg:Good cl σ)(hc:aL7 T cl o=true)(h:Eff T P hv n ops o σ v ms):Good cl (σ.put o.dst v ms):=by
 intro u i hu;by_cases e:o.dst=some u
 ·rw[e,pI]
  unfold aL7 at hc;rw[e]at hc;simp only[hu]at hc
  have key:bW T P (.drawn hv) σ (o.dst.getD n) o.op (Is v ms)->v.ok (fun j=>j=i) (fun _ _=>i=77777):=by
   intro h;split at hc
   ·rename_i s x f hop
    rw[hop]at h;have h':opVC T σ (o.dst.getD n) (.fieldAddr s x f) (Is v ms):=h;unfold opVC at h';simp only at h'
    cases hb:Nat.blt s (T.n s)with
    |false=>rw[hb]at h';exact h'.elim
    |true=>
     rw[hb]at h';exact dQ7 (aC5 hg hc) h'
   ·rename_i s x f hop
    rw[hop]at h;have h':opVC T σ (o.dst.getD n) (.indexAddr s x f) (Is v ms):=h;unfold opVC at h';simp only at h'
    cases hb:Nat.blt s (T.n s)with
    |false=>rw[hb]at h';exact h'.elim
    |true=>
     rw[hb]at h';rw[Bool.or_eq_true]at hc;rcases hc with hc|hc
     ·exact dQ8 (aC5 hg hc) h'
     ·rw[Bool.and_eq_true]at hc
      have h77:i=77777:=Nat.eq_of_beq_eq_true hc.1;exact V.ok.imp (fun _ h=>h.elim) (fun _ _ _=>h77) _ (fY0 (wf x) hc.2 h')
   ·rename_i x hop
    rw[hop]at h;have h':opVC T σ (o.dst.getD n) (.move x) (Is v ms):=h;unfold opVC at h';simp only at h';exact O7
   ·rename_i x hop
    rw[hop]at h;have h':opVC T σ (o.dst.getD n) (.nilCheck x) (Is v ms):=h;unfold opVC at h';simp only at h';obtain⟨_,h'⟩:=aT h';exact O7
   ·rename_i t hop
    have hui:u=i:=Nat.eq_of_beq_eq_true hc;rw[hop,e]at h;have h':opVC T σ u (.alloc t) (Is v ms):=h
    unfold opVC at h';simp only at h'
    cases hb:Nat.blt t (T.n t)with
    |false=>rw[hb]at h';exact h'.elim
    |true=>
     rw[hb]at h';exact Oo
   ·rename_i t x hop
    have hui:u=i:=Nat.eq_of_beq_eq_true hc;rw[hop,e]at h;have h':opVC T σ u (.box t x) (Is v ms):=h
    unfold opVC at h';exact Oo
   ·rename_i t x y t' hop
    rw[hop]at h;obtain⟨y',hy'⟩:∃y',y'=y:=⟨_,rfl⟩
    have h':bD7 T .rem t (σ.ev x) (σ.ev y) (Is v ms):=by
     unfold bW at h;split at h<;>rename_i heq<;>first|(cases heq;done)|skip
     ·injection heq with e1 e2 e3 e4 e5
      subst e1 e2 e3 e4 e5;split at h
      ·rename_i hl _;cases hl
      ·exact h
     ·exact h
    unfold bD7 at h';split at h'
    ·rename_i k1 m1 k2 m2 _ _
     by_cases hkk:k1=k2
     ·simp only[hkk,decide_true,cond_true]at h'
      have h2:=(dX h').2;obtain⟨rfl,_⟩:=h2;unfold lC;simp only[V.ok]
     ·simp only[hkk,decide_false,cond_false]at h'
      exact(h':False).elim
    ·exact h'.elim
    ·exact JM
    ·obtain⟨_,h'⟩:=aT h'
     exact(h':False).elim
    ·exact JM
    ·exact h'.elim
   ·cases hc
  unfold Eff at h;obtain⟨_,h⟩:=h;split at h
  ·exact key h
  ·obtain⟨s,_,h⟩:=h
   rcases h with⟨_,h⟩|⟨_,rfl,_⟩
   ·exact key h
   ·simp only[V.ok,V.okL]
 ·rw[bU _ _ _ _ e]
  exact hg u i hu
theorem cQ5{t:TypeId}{x y:Operand}(h:bW T P (.drawn hv) σ d (.indexAddr t x y) (Is v ms)):ms=[] :=by
 have h':opVC T σ d (.indexAddr t x y) (Is v ms):=h;unfold opVC at h'
 have hm:Mo (fun ms=>ms=[]) (fun K=>cond (Nat.blt t (T.n t)) (gI T (T.row t) σ (σ.ev x) (σ.ev y) K) False):=by
  refine Mo.cond ?_ Mo.false;unfold gI;split
  ·split
   ·exact JZ
   ·exact JZ
   ·split
    ·exact Mo.need fun _=>Mo.cond (Mo.ret _ rfl) Mo.false
    ·exact Mo.false
   ·exact Mo.false
  ·split
   ·exact Mo.cond (Mo.ret _ rfl) Mo.false
   ·exact Mo.cond (Mo.bJ fun l=>Mo.ret _ rfl) Mo.false
   ·exact Mo.false
  ·exact Mo.false
 exact MQ
theorem bS5{t:TypeId}{x:Operand}(h:bW T P (.drawn hv) σ d (.load t x) (Is v ms)):ms=[] :=by
 have h':opVC T σ d (.load t x) (Is v ms):=h;unfold opVC at h'
 have hm:Mo (fun ms=>ms=[]) (fun K=>cond (Nat.blt t (T.n t)) (pW (T.row t) σ (σ.ev x) K) False):=by
  refine Mo.cond ?_ Mo.false;unfold pW;split
  ·split
   ·exact rM (R:=fun ms=>ms=[]) rfl _ _
   ·exact Mo.false
  ·exact rM (R:=fun ms=>ms=[]) rfl _ _
  ·split
   ·exact Mo.need fun _=>Mo.idx fun x=>Mo.cond (rM (R:=fun ms=>ms=[]) rfl _ _) Mo.false
   ·exact Mo.false
  ·exact Mo.false
 exact MQ
theorem cT0{t:TypeId}{x y:Operand}{i:Nat}{q:Nat->Nat->Prop}(hx:(σ.ev x).ok (fun j=>j=i) q)(h:bW T P (.drawn hv) σ d (.store t x y) (Is v ms)):∀m∈ms,∀j,j≠i->¬m.isB j:=by
 have h':opVC T σ d (.store t x y) (Is v ms):=h;unfold opVC at h'
 have hm:Mo (fun ms=>∀m∈ms,∀j,j≠i->¬m.isB j) (fun K=>cond (Nat.blt t (T.n t)) (qU (T.row t) σ (σ.ev x) (σ.ev y) K) False):=by
  refine Mo.cond ?_ Mo.false;unfold qU;split
  ·rename_i k off hk
   rw[hk]at hx;simp only[V.ok]at hx;subst hx;split
   ·refine Mo.cond (Mo.bJ fun l=>Mo.ret _ ?_) Mo.false
    intro m hm j hj hb;cases List.mem_singleton.1 hm;exact hj hb.symm
   ·exact Mo.false
  ·split
   ·refine Mo.need fun _=>Mo.idx fun x=>Mo.cond (Mo.bJ fun l=>Mo.ret _ ?_) Mo.false
    intro m hm j hj hb;cases List.mem_singleton.1 hm;exact hb
   ·exact Mo.false
  ·exact Mo.false
 exact MI
theorem cL2{as:Array Operand}{ts:Array TypeId}(h:bW T P (.drawn hv) σ d (.call ⟨.builtin .append,as,ts⟩) (Is v ms)):∀m∈ms,∀j,¬m.isB j:=by
 have one:∀(k:Nat) (en:AE),∀m∈[Mod.a k en],∀j,¬m.isB j:=fun k en m hm j hb=>by cases List.mem_singleton.1 hm;exact hb
 have h':opVC T σ d (.call ⟨.builtin .append,as,ts⟩) (Is v ms):=h;unfold opVC at h';split at h'<;>rename_i heq<;>try(cases heq;done)
 ·rename_i s x t t'
  have hm:Mo (fun ms=>∀m∈ms,∀j,¬m.isB j) (fun K=>cond (Nat.blt t (T.n t)&&Nat.blt t' (T.n t')) (kT T (T.row t) (T.row t').kd σ d (σ.ev s) (σ.ev x) K) False):=by
   refine Mo.cond ?_ Mo.false;unfold kT;split
   ·refine Mo.cond (Mo.contsK fun xs=>?_) Mo.false
    split
    ·exact Jq
    ·exact Jq
    ·exact Jq
    ·exact Mo.false
   ·exact Mo.false
  exact MI
 all_goals exact h'.elim
theorem bG5{t:TypeId}{x:Operand}{lo hi mx:Option Operand}(wf:∀x:Operand,(σ.ev x).ok σ.hasB σ.hasA)(h:bW T P (.drawn hv) σ d (.slice t x lo hi mx) (Is v ms)):
 ms=[]/\∀y∈(Op.slice t x lo hi mx).operands,(σ.ev y).ok (fun _=>False) (fun k _=>∃en,σ.ar k=some en/\en.kind= .frz):=by
 have h':opVC T σ d (.slice t x lo hi mx) (Is v ms):=by
  cases x<;>exact h
 unfold opVC at h';simp only at h'
 have hop:∀y,y∈(Op.slice t x lo hi mx).operands->y=x\/lo=some y\/hi=some y\/mx=some y:=by
  intro y hy;cases lo<;>cases hi<;>cases mx<;>simp[Op.operands]at hy⊢<;>grind
 have lit:∀ {o:Option Operand} {y:Operand} {dflt:Int} {K:Int->Prop},o=some y->bound (o.map σ.ev) dflt K->(σ.ev y).ok (fun _=>False) (fun k _=>∃en,σ.ar k=some en/\en.kind= .frz):=by
  intro o y dflt K e hb;subst e;simp only[Option.map]at hb;generalize σ.ev y=yv at hb;unfold bound at hb;split at hb
  ·rename_i e;cases e
  ·rename_i e;cases e;trivial
  ·exact hb.elim
 have bget:∀ {o:Option V} {dflt:Int} {K:Int->Prop},bound o dflt K->∃n,K n:=by
  intro o dflt K hb;unfold bound at hb;split at hb
  ·exact⟨_,hb⟩
  ·exact⟨_,hb⟩
  ·exact hb.elim
 have cget:∀ {K:List V->Prop},lV σ (σ.ev x) K->(σ.ev x).ok (fun _=>False) (fun k _=>∃en,σ.ar k=some en/\en.kind= .frz)/\∃xs,K xs:=by
  intro K hc;have wx:=wf x;generalize σ.ev x=xv at hc wx;unfold lV at hc;split at hc
  ·exact⟨by simpa only[V.ok]using wx,_,hc⟩
  ·exact⟨by simpa only[V.ok]using wx,_,hc⟩
  ·exact⟨trivial,_,hc⟩
  ·split at hc
   ·rename_i en he
    have q:=dX hc;exact⟨by simp only[V.ok];exact⟨en,he,q.1.2⟩,_,q.2⟩
   ·exact hc.elim
  ·exact hc.elim
 cases hb:Nat.blt t (T.n t)with
 |false=>rw[hb]at h';exact h'.elim
 |true=>
  rw[hb]at h';simp only[cond]at h';unfold sZ at h';split at h'
  ·rename_i s hk hx
   split at h'
   ·rename_i hmx
    obtain⟨l,h1⟩:=bget h';obtain⟨hh,h2⟩:=bget h1;have h3:=(dX h2).2;refine⟨h3.2.symm,fun y hy=>?_⟩;rcases hop y hy with rfl|e|e|e
    ·rw[hx];trivial
    ·exact lit e h'
    ·exact lit e h1
    ·subst e;cases hmx
   ·exact h'.elim
  ·rename_i hk _
   cases hb2:Nat.blt (T.row t).elem (T.n (T.row t).elem)with
   |false=>rw[hb2]at h';exact h'.elim
   |true=>
    rw[hb2]at h';simp only[cond]at h';obtain⟨hx,xs,h0⟩:=cget h';obtain⟨l,h1⟩:=bget h0;obtain⟨hh,h2⟩:=bget h1;split at h2
    ·rename_i hmx
     have h3:=(dX h2).2;refine⟨h3.2.symm,fun y hy=>?_⟩;rcases hop y hy with rfl|e|e|e
     ·exact hx
     ·exact lit e h0
     ·exact lit e h1
     ·subst e;cases hmx
    ·rename_i m hmx
     split at h2
     ·exact h2.elim
     ·obtain⟨mm,h3⟩:=bget h2
      have h4:=(dX h3).2;refine⟨h4.2.symm,fun y hy=>?_⟩;rcases hop y hy with rfl|e|e|e
      ·exact hx
      ·exact lit e h0
      ·exact lit e h1
      ·rw[<-hmx]at h2
       exact lit e h2
  ·exact h'.elim
theorem dN0{as:Array Operand}{ts:Array TypeId}(h:bW T P (.drawn hv) σ d (.call ⟨.builtin .append,as,ts⟩) (Is v ms)):∀m∈ms,∀k en,σ.ar k=some en->en.kind= .frz->¬m.isA k:=by
 have one:∀(k:Nat) (en':AE),(∀en,σ.ar k=some en->en.kind≠ .frz)->∀m∈[Mod.a k en'],∀j en,σ.ar j=some en->en.kind= .frz->¬m.isA j:=fun k en' hk m hm j en h1 h2 hb=>by
  cases List.mem_singleton.1 hm;cases hb;exact hk en h1 h2
 have h':opVC T σ d (.call ⟨.builtin .append,as,ts⟩) (Is v ms):=h;unfold opVC at h';split at h'<;>rename_i heq<;>try(cases heq;done)
 ·rename_i s x t t'
  have hm:Mo (fun ms=>∀m∈ms,∀j en,σ.ar j=some en->en.kind= .frz->¬m.isA j) (fun K=>cond (Nat.blt t (T.n t)&&Nat.blt t' (T.n t')) (kT T (T.row t) (T.row t').kd σ d (σ.ev s) (σ.ev x) K) False):=by
   refine Mo.cond ?_ Mo.false;unfold kT;split
   ·refine Mo.cond (Mo.contsK fun xs=>?_) Mo.false
    split
    ·exact Jr
    ·exact Jr
    ·split
     ·rename_i en0 hd
      exact Mo.need fun hn=>Mo.ret _ (one _ _ (fun en he=>by rw[hd]at he;cases he;rcases hn.2.1 with h|h<;>rw[h] <;>simp))
     ·exact Mo.false
    ·exact Mo.false
   ·exact Mo.false
  exact MI
 all_goals exact h'.elim
theorem dV9(hno:hvO hv o=false)(he:∀t∈o.looksAt ops.toArray,σ'.env t=σ.env t)(ha:(∃d,bW T P (.drawn hv) σ d o.op (Is v ms))->1<cls o.op->∀x∈o.op.operands,(σ.ev x).agr σ σ')(hm:∀m∈ms,m.same σ σ')(h:Eff T P hv n ops o σ v ms):Eff T P hv n ops o σ' v ms:=by
 have hev:∀x∈o.op.operands,σ'.ev x=σ.ev x:=by
  intro x hx;exact Og
 unfold Eff at*;obtain⟨h1,h2⟩:=h;refine⟨h1,?_⟩;split at h2
 ·rename_i hg
  exact aO9 (fun hq=>by rw[aP3 hno]at hq;cases hq) hev (ha ⟨_,h2⟩) hm h2
 ·rename_i j want hg
  obtain⟨s,q1,q2⟩:=h2;have hs:σ'.env s=σ.env s:=I9;refine⟨s,q1,?_⟩;rw[hs];rcases q2 with⟨q2,q3⟩|q2
  ·exact .inl ⟨q2,aO9 (fun hq=>by rw[aP3 hno]at hq;cases hq) hev (ha ⟨_,q3⟩) hm q3⟩
  ·exact .inr q2
theorem cY5(hnp:hvO hv p=false)(hno:hvO hv o=false)(wf:∀x:Operand,(σ.ev x).ok σ.hasB σ.hasA)(hpo:Oper.apart ops.toArray p o=true){t:TypeId}{x0:Operand}{lo hi mx:Option Operand}(hp:p.op= .slice t x0 lo hi mx)(ho:isApp o.op=true)
 (h1:Eff T P hv n ops p σ v ms)(h2:Eff T P hv n ops o (σ.put p.dst v ms) v' ms'):
 Eff T P hv n ops o σ v' ms'/\Eff T P hv n ops p (σ.put o.dst v' ms') v ms/\(σ.put p.dst v ms).put o.dst v' ms'=(σ.put o.dst v' ms').put p.dst v ms:=by
 obtain⟨hp1,hp2,hp3⟩:=Oper.apart_spec hpo
 have hms:ms=[] :=by
  unfold Eff at h1;obtain⟨_,h1⟩:=h1;rw[hp]at h1;split at h1
  ·exact(bG5 wf h1).1
  ·obtain⟨s,_,h1⟩:=h1
   rcases h1 with⟨_,h1⟩|⟨_,_,h1⟩
   ·exact(bG5 wf h1).1
   ·exact h1
 subst hms;have b1:(σ.put p.dst v []).bx=σ.bx:=Et;have a1:(σ.put p.dst v []).ar=σ.ar:=Eu
 have s1:Eff T P hv n ops o σ v' ms':=KL
 have hA:∀m∈ms',∀k en,σ.ar k=some en->en.kind= .frz->¬m.isA k:=by
  have h2:=s1;unfold Eff at h2;obtain⟨_,h2⟩:=h2
  have key:bW T P (.drawn hv) σ (o.dst.getD n) o.op (Is v' ms')->∀m∈ms',∀k en,σ.ar k=some en->en.kind= .frz->¬m.isA k:=by
   intro h;unfold isApp at ho;split at ho
   ·rename_i hop
    rw[hop]at h;exact dN0 h
   ·cases ho
  split at h2
  ·exact key h2
  ·exact Jy
 refine⟨s1,?_,?_⟩
 ·refine dV9 hnp (σ:=σ) ?_ ?_ ?_ h1
  ·intro t ht
   exact bU _ _ _ _ (fun e=>hp3 t e ht)
  ·rintro⟨d,hd⟩ _ x hx
   rw[hp]at hd hx;refine V.ok.imp ?_ ?_ _ ((bG5 wf hd).2 x hx)
   ·intro _ h;exact h.elim
   ·rintro k _ ⟨en,e1,e2⟩
    rw[nX];exact lW _ _ _ (fun m hm=>hA m hm k en e1 e2)
  ·intro m hm;cases hm
 ·exact Ie
theorem eC6{as:Array Operand}{ts:Array TypeId}(h:bW T P (.drawn hv) σ d (.call ⟨.builtin .len,as,ts⟩) (Is v ms)):ms=[] :=by
 have h':opVC T σ d (.call ⟨.builtin .len,as,ts⟩) (Is v ms):=h;unfold opVC at h';split at h'<;>rename_i heq<;>try(cases heq;done)
 ·rename_i x t
  have hm:Mo (fun ms=>ms=[]) (fun K=>cond (Nat.blt t (T.n t)) (match(T.row t).kd with| .slice=>aE9 σ (σ.ev x) K| .str=>aI4 (σ.ev x) K|_=>False) False):=by
   refine Mo.cond ?_ Mo.false;split
   ·unfold aE9
    split
    ·exact Mo.ret _ rfl
    ·exact Mo.ret _ rfl
    ·exact Mo.ret _ rfl
    ·split
     ·exact Mo.need fun _=>Mo.ret _ rfl
     ·exact Mo.false
    ·exact Mo.false
   ·unfold aI4
    split
    ·exact Mo.ret _ rfl
    ·exact Mo.false
   ·exact Mo.false
  exact MQ
 all_goals exact h'.elim
theorem dL0(hnp:hvO hv p=false)(hno:hvO hv o=false)(wf:∀x:Operand,(σ.ev x).ok σ.hasB σ.hasA)(hg:Good cl σ)(hpo:Oper.apart ops.toArray p o=true)(hs:aM7 cl p.op o.op=true)
 (h1:Eff T P hv n ops p σ v ms)(h2:Eff T P hv n ops o (σ.put p.dst v ms) v' ms'):
 Eff T P hv n ops o σ v' ms'/\Eff T P hv n ops p (σ.put o.dst v' ms') v ms/\(σ.put p.dst v ms).put o.dst v' ms'=(σ.put o.dst v' ms').put p.dst v ms:=by
 by_cases hsl:∃t x lo hi mx,p.op= .slice t x lo hi mx
 ·obtain⟨t,x,lo,hi,mx,hsl⟩:=hsl
  rw[hsl]at hs;exact cY5 hnp hno wf hpo hsl hs h1 h2
 obtain⟨hp1,hp2,hp3⟩:=Oper.apart_spec hpo
 obtain⟨i,hs,hpx,hpm⟩:∃i,sepO cl i o.op=true/\(∀x∈p.op.operands,(σ.ev x).ok (fun j=>j=i) (fun _ _=>False))/\(∀d v ms,bW T P (.drawn hv) σ d p.op (Is v ms)->ms=[]):=by
  unfold aM7 at hs;split at hs
  ·rename_i t u hpop
   split at hs
   ·rename_i i hi
    rw[Bool.and_eq_true]at hs;refine⟨i,hs.2,fun x hx=>?_,fun d v ms h=>?_⟩
    ·rw[hpop]at hx
     have:x= .tmp u:=ES;subst this;exact hg.ne hi FQ
    ·rw[hpop]at h;exact bS5 h
   ·cases hs
  ·rename_i t u y hpop
   split at hs
   ·rename_i i hi
    rw[Bool.and_eq_true,Bool.and_eq_true]at hs;refine⟨i,hs.2.2,fun x hx=>?_,fun d v ms h=>?_⟩
    ·rw[hpop]at hx
     have:x= .tmp u\/x=y:=ES;rcases this with rfl|rfl
     ·exact hg.ne hi FQ
     ·exact fZ4 hg FQ hs.2.1
    ·rw[hpop]at h;exact cQ5 h
   ·cases hs
  ·rename_i hpop
   exact absurd ⟨_,_,_,_,_,hpop⟩ hsl
  ·rename_i u ts hpop
   split at hs
   ·rename_i i hi
    rw[Bool.and_eq_true]at hs;refine⟨i,hs.2,fun x hx=>?_,fun d v ms h=>?_⟩
    ·rw[hpop]at hx
     have:x= .tmp u:=by simpa [Op.operands,Call.operands]using hx
     subst this;exact hg.ne hi FQ
    ·rw[hpop]at h;exact eC6 h
   ·cases hs
  ·cases hs
 have hms:ms=[] :=by
  unfold Eff at h1;obtain⟨_,h1⟩:=h1;split at h1
  ·exact hpm _ _ _ h1
  ·obtain⟨s,_,h1⟩:=h1
   rcases h1 with⟨_,h1⟩|⟨_,_,h1⟩
   ·exact hpm _ _ _ h1
   ·exact h1
 subst hms;have b1:(σ.put p.dst v []).bx=σ.bx:=Et;have a1:(σ.put p.dst v []).ar=σ.ar:=Eu
 have s1:Eff T P hv n ops o σ v' ms':=KL
 have hB:∀m∈ms',¬m.isB i:=by
  have h2:=s1;unfold Eff at h2;obtain⟨_,h2⟩:=h2
  have key:bW T P (.drawn hv) σ (o.dst.getD n) o.op (Is v' ms')->∀m∈ms',¬m.isB i:=by
   intro h;unfold sepO at hs;split at hs
   ·rename_i t' u' y hop
    rw[hop]at h;split at hs
    ·rename_i j hj
     refine fun m hm=>cT0 (σ:=σ) (x:= .tmp u') (i:=j) (hg u' j hj) h m hm i (fun e=>?_);subst e;simp at hs
    ·cases hs
   ·rename_i hop
    rw[hop]at h;exact fun m hm=>cL2 h m hm i
   ·cases hs
  split at h2
  ·exact key h2
  ·exact Jy
 refine⟨s1,?_,?_⟩
 ·refine mW (σ:=σ) (fun hq=>CQ) ?_ ?_ ?_ h1
  ·intro t ht
   exact bU _ _ _ _ (fun e=>hp3 t e ht)
  ·intro _ x hx
   refine V.ok.imp ?_ ?_ _ (hpx x F6)
   ·rintro j rfl
    rw[lT];exact jJ _ _ _ hB
   ·intro _ _ h;exact h.elim
  ·intro m hm;cases hm
 ·exact Ie
mutual
theorem cD8{p p':Nat->Prop}{q q':Nat->Nat->Prop}: {x:V}->x.ok p q->x.ok p' q'->x.ok (fun i=>p i/\p' i) (fun k g=>q k g/\q' k g)
 | .box i _,h,h'=>D5
 | .arr k g,h,h'=>D5
 | .ae k g _ _ _,h,h'=>D5
 | .agg cs,h,h'=>Dj
 | .tup cs,h,h'=>Dj
 | .sl l,h,_=>AB
 | .cap l,h,_=>AB
 | .fp l,h,_=>AB
 | .fn _ l,h,h'=>Dj
 | .own _ l,h,_=>AB
 | .ap _ l,h,_=>AB
 | .bot,_,_=>Bl
 | .lit _,_,_=>Bl
theorem aL2{p p':Nat->Prop}{q q':Nat->Nat->Prop}: {l:List V}->V.okL p q l->V.okL p' q' l->V.okL (fun i=>p i/\p' i) (fun k g=>q k g/\q' k g) l
 | [],_,_=>BD
 |x::r,h,h'=>by simp only[V.okL]at h h'⊢;exact⟨cD8 h.1 h'.1,aL2 h.2 h'.2⟩
end
def Mod.frzA:Mod->Prop
 | .a _ en=>en.kind= .frz
 | .b _ _=>False
theorem gH6(l:List V):capK l≠ .frz:=by
 unfold capK;split<;>exact fun h=>Ag
theorem fO7{as:Array Operand}{ts:Array TypeId}(h:bW T P (.drawn hv) σ d (.call ⟨.builtin .append,as,ts⟩) (Is v ms)):∀m∈ms,¬m.frzA:=by
 have one:∀(k:Nat) (en:AE),en.kind≠ .frz->∀m∈[Mod.a k en],¬m.frzA:=fun k en he m hm hb=>by cases List.mem_singleton.1 hm;exact he hb
 have h':opVC T σ d (.call ⟨.builtin .append,as,ts⟩) (Is v ms):=h;unfold opVC at h';split at h'<;>rename_i heq<;>try(cases heq;done)
 ·rename_i s x t t'
  have hm:Mo (fun ms=>∀m∈ms,¬m.frzA) (fun K=>cond (Nat.blt t (T.n t)&&Nat.blt t' (T.n t')) (kT T (T.row t) (T.row t').kd σ d (σ.ev s) (σ.ev x) K) False):=by
   refine Mo.cond ?_ Mo.false;unfold kT;split
   ·refine Mo.cond (Mo.contsK fun xs=>?_) Mo.false
    split
    ·split
     ·exact Mo.need fun _=>Mo.ret _ (one _ _ (fun h=>Ag))
     ·exact Mo.false
    ·split
     ·exact Mo.need fun _=>Mo.ret _ (one _ _ (gH6 _))
     ·exact Mo.false
    ·split
     ·exact Mo.need fun hn=>Mo.ret _ (one _ _ (by rcases hn.2.1 with q|q<;>rw[q] <;>exact fun h=>by cases h))
     ·exact Mo.false
    ·exact Mo.false
   ·exact Mo.false
  exact MI
 all_goals exact h'.elim
theorem fY9{en:AE}{j:Nat}:∀(ms:List Mod) (σ:St),(∀m∈ms,¬m.frzA)->(σ.apps ms).ar j=some en->en.kind= .frz->σ.ar j=some en
 | [],σ,_,h,_=>h
 |m::r,σ,hm,h,hk=>by
  have h1:((m.app σ).apps r).ar j=some en:=h;have h2:=fY9 r (m.app σ) (fun m' hm'=>hm m' (List.mem_cons_of_mem _ hm')) h1 hk
  cases m with
  |b i cs=>exact h2
  |a k e=>
   have h3:upd σ.ar k (some e) j=some en:=h2;by_cases hj:j=k
   ·subst hj
    rw[upd_same]at h3;cases h3;exact absurd hk (hm (Mod.a j en) (List.mem_cons_self ..))
   ·rw[upd_ne _ _ hj]at h3
    exact h3
theorem gE0(hnp:hvO hv p=false)(hno:hvO hv o=false)(wf:∀x:Operand,(σ.ev x).ok σ.hasB σ.hasA)(wf':∀x:Operand,((σ.put p.dst v ms).ev x).ok (σ.put p.dst v ms).hasB (σ.put p.dst v ms).hasA)(hg:Good cl σ)(hpo:Oper.apart ops.toArray p o=true)(hs:fL7 cl p.op o.op=true)
 (h1:Eff T P hv n ops p σ v ms)(h2:Eff T P hv n ops o (σ.put p.dst v ms) v' ms'):
 Eff T P hv n ops o σ v' ms'/\Eff T P hv n ops p (σ.put o.dst v' ms') v ms/\(σ.put p.dst v ms).put o.dst v' ms'=(σ.put o.dst v' ms').put p.dst v ms:=by
 obtain⟨hp1,hp2,hp3⟩:=Oper.apart_spec hpo;unfold fL7 at hs;rw[Bool.and_eq_true]at hs;obtain⟨ha,hrd⟩:=hs
 have hap:(∀m∈ms,∀j,¬m.isB j)/\(∀m∈ms,¬m.frzA):=by
  have h1':=h1;unfold Eff at h1';obtain⟨_,h1'⟩:=h1';unfold isApp at ha;split at ha
  ·rename_i hop
   rw[hop]at h1';split at h1'
   ·exact⟨cL2 h1',fO7 h1'⟩
   ·obtain⟨s,_,h1'⟩:=h1'
    rcases h1' with⟨_,h1'⟩|⟨_,_,h1'⟩
    ·exact⟨cL2 h1',fO7 h1'⟩
    ·subst h1';exact⟨(fun m hm=>Bg),(fun m hm=>Bg)⟩
  ·cases ha
 obtain⟨hB,hF⟩:=hap
 have hbx:∀j,(σ.put p.dst v ms).bx j=σ.bx j:=fun j=>by
  rw[lT];exact jJ _ _ _ (fun m hm=>hB m hm j)
 have hev:∀x∈o.op.operands,(σ.put p.dst v ms).ev x=σ.ev x:=fun x hx=>Ho
 have hcl:(cl.any fun q=> !Nat.beq q.2 77777&&o.op.operands.all fun x=>zO cl x q.2)=true->∃i,∀x∈o.op.operands,(σ.ev x).ok (fun j=>j=i) (fun _ _=>False):=fun h=>by
  rw[List.any_eq_true]at h;obtain⟨q,_,hq⟩:=h;rw[Bool.and_eq_true,Array.all_eq_true_iff_forall_mem]at hq;exact⟨q.2,fun x hx=>fZ4 hg (by simpa using hq.1) (hq.2 x hx)⟩
 have hagr:(∃i,∀x∈o.op.operands,(σ.ev x).ok (fun j=>j=i) (fun _ _=>False))->∀x∈o.op.operands,(σ.ev x).agr (σ.put p.dst v ms) σ:=fun⟨i,h⟩ x hx=>V.ok.imp (fun j _=>(hbx j).symm) (fun _ _ h=>h.elim) _ (h x hx)
 have key:ms'=[]/\((∃d,bW T P (.drawn hv) (σ.put p.dst v ms) d o.op (Is v' ms'))->∀x∈o.op.operands,(σ.ev x).agr (σ.put p.dst v ms) σ):=by
  have h2':=h2;unfold Eff at h2';obtain⟨_,h2'⟩:=h2'
  have out:(∀d,bW T P (.drawn hv) (σ.put p.dst v ms) d o.op (Is v' ms')->ms'=[])->ms'=[] :=fun h=>by
   split at h2'
   ·exact h _ h2'
   ·obtain⟨s,_,h2'⟩:=h2'
    rcases h2' with⟨_,h2'⟩|⟨_,_,h2'⟩
    ·exact h _ h2'
    ·exact h2'
  split at hrd
  ·rename_i hop
   refine⟨out (fun d h=>by rw[hop]at h;exact(bG5 wf' h).1),?_⟩
   rintro⟨d,h⟩ x hx;rw[hop]at h hx;have hok:=(bG5 wf' h).2 x hx;rw[hev x (by rw[hop];exact hx)]at hok
   refine V.ok.imp ?_ ?_ _ hok
   ·intro _ h;exact h.elim
   ·rintro k _ ⟨en,e1,e2⟩
    rw[nX]at e1⊢;rw[e1];exact fY9 ms σ hF e1 e2
  ·rename_i hop
   exact⟨out (fun d h=>by rw[hop]at h;exact bS5 h),fun _=>hagr (hcl D6)⟩
  ·rename_i hop
   exact⟨out (fun d h=>by rw[hop]at h;exact cQ5 h),fun _=>hagr (hcl D6)⟩
  ·rename_i hop
   exact⟨out (fun d h=>by rw[hop]at h;exact eC6 h),fun _=>hagr (hcl D6)⟩
  ·cases hrd
 obtain⟨hms,hag⟩:=key;subst hms;have b1:(σ.put o.dst v' []).bx=σ.bx:=Et;have a1:(σ.put o.dst v' []).ar=σ.ar:=Eu
 refine⟨?_,?_,?_⟩
 ·refine dV9 hno (σ:=σ.put p.dst v ms) ?_ ?_ ?_ h2
  ·intro t ht
   exact(bU _ _ _ _ (fun e=>hp1 t e ht)).symm
  ·intro hd _ x hx
   rw[hev x hx];exact hag hd x hx
  ·intro m hm;cases hm
 ·exact Ig
 ·exact IA
def Hd(a b:Option AE):Prop:=match a,b with
 |some x,some y=>x.gen=y.gen/\x.kind=y.kind/\x.ty=y.ty/\x.l.length=y.l.length
 |none,none=>True
 |_,_=>False
theorem Hd.rfl'(a:Option AE):Hd a a:=by cases a<;>simp[Hd]
theorem Hd.symm{a b:Option AE}(h:Hd a b):Hd b a:=by
 cases a<;>cases b<;>simp_all [Hd]
theorem fX4{t:TypeId}{x y:Operand}(h:bW T P (.drawn hv) σ d (.store t x y) (Is v ms))(k:Nat):Hd (σ.ar k) ((σ.apps ms).ar k):=by
 have h':opVC T σ d (.store t x y) (Is v ms):=h;unfold opVC at h';simp only at h';obtain⟨_,h'⟩:=aT h';unfold qU at h';split at h'
 ·split at h'
  ·obtain⟨_,h'⟩:=aT h'
   rw[bC]at h';obtain⟨_,rfl⟩:=h';exact Hd.rfl' _
  ·exact h'.elim
 ·rename_i j g sz i off hx
  split at h'
  ·rename_i en hen
   obtain⟨_,h'⟩:=dX h';obtain⟨z,hz,h'⟩:=cO3 h';obtain⟨_,h'⟩:=aT h';rw[bC]at h';obtain⟨_,rfl⟩:=h';show Hd (σ.ar k) (upd σ.ar j (some _) k);by_cases hj:k=j
   ·subst hj
    rw[upd_same,hen];exact⟨rfl,rfl,rfl,Ae⟩
   ·rw[upd_ne _ _ hj]
    exact Hd.rfl' _
  ·exact h'.elim
 ·exact h'.elim
theorem fL9(ho:∃t x y,p.op= .store t x y)(h:Eff T P hv n ops p σ v ms)(k:Nat):Hd (σ.ar k) ((σ.apps ms).ar k):=by
 obtain⟨t,x,y,ho⟩:=ho;unfold Eff at h;rw[ho]at h;obtain⟨_,h⟩:=h;split at h
 ·exact fX4 h k
 ·obtain⟨s,_,h⟩:=h
  rcases h with⟨_,h⟩|⟨_,_,rfl⟩
  ·exact fX4 h k
  ·exact Hd.rfl' _
theorem fU8{r:Row}{x y:V}(hh:∀k,Hd (σ.ar k) (σ'.ar k))(h:gI T r σ x y (Is v ms)):gI T r σ' x y (Is v ms):=by
 cases x
 case arr k g=>
  have hk:=hh k;unfold gI at h⊢;split at h
  ·rename_i hkd
   simp only at h⊢;generalize σ.ar k=a at h hk;generalize σ'.ar k=b at hk⊢
   cases a with
   |none=>exact h.elim
   |some en=>
    cases b with
    |none=>exact hk.elim
    |some en'=>
     obtain⟨h1,h2⟩:=dX h;obtain⟨e1,e2,e3,e4⟩:=hk;simp only at h2⊢;rw[<-e3];refine⟨⟨?_,h2⟩⟩;rw[<-e1,<-e2,<-e4];exact h1
  ·exact h.elim
  ·exact h.elim
 all_goals exact h
theorem fT5(ho:∃t x y,o.op= .indexAddr t x y)(he:∀t∈o.looksAt ops.toArray,σ'.env t=σ.env t)(hh:∀k,Hd (σ.ar k) (σ'.ar k))(h:Eff T P hv n ops o σ v ms):Eff T P hv n ops o σ' v ms:=by
 obtain⟨t,x,y,ho⟩:=ho
 have hev:∀z∈o.op.operands,σ'.ev z=σ.ev z:=by
  intro z hz
  cases z with
  |tmp t=>
   refine he t ?_;unfold Oper.looksAt;rw[List.mem_append];left;rw[List.mem_filterMap];exact⟨.tmp t,Array.mem_toList_iff.2 hz,rfl⟩
  |const v=>rfl
  |global g=>rfl
  |func f=>rfl
 have ex:σ'.ev x=σ.ev x:=hev x (by rw[ho];simp[Op.operands])
 have ey:σ'.ev y=σ.ev y:=hev y (by rw[ho];simp[Op.operands])
 have key:∀d,bW T P (.drawn hv) σ d o.op (Is v ms)->bW T P (.drawn hv) σ' d o.op (Is v ms):=by
  intro d h;rw[ho]at h⊢;have h':opVC T σ d (.indexAddr t x y) (Is v ms):=h;show opVC T σ' d (.indexAddr t x y) (Is v ms);unfold opVC at h'⊢;simp only at h'⊢;obtain⟨h1,h2⟩:=aT h';rw[h1,ex,ey];exact fU8 hh h2
 unfold Eff at*;obtain⟨h1,h2⟩:=h;refine⟨h1,?_⟩;split at h2
 ·exact key _ h2
 ·rename_i j want hg
  obtain⟨s,q1,q2⟩:=h2;have hs:σ'.env s=σ.env s:=I9;refine⟨s,q1,?_⟩;rw[hs];rcases q2 with⟨q2,q3⟩|q2
  ·exact .inl ⟨q2,key _ q3⟩
  ·exact .inr q2
theorem fJ4(ho:∃t x y,o.op= .indexAddr t x y)(h:Eff T P hv n ops o σ v ms):ms=[] :=by
 obtain⟨t,x,y,ho⟩:=ho;unfold Eff at h;rw[ho]at h;obtain⟨_,h⟩:=h;split at h
 ·exact cQ5 h
 ·obtain⟨s,_,h⟩:=h
  rcases h with⟨_,h⟩|⟨_,_,h⟩
  ·exact cQ5 h
  ·exact h
theorem gJ0(hnp:hvO hv p=false)(hno:hvO hv o=false)(wf:∀x:Operand,(σ.ev x).ok σ.hasB σ.hasA)(hpo:Oper.apart ops.toArray p o=true)(hs:fY1 p.op o.op=true)
 (h1:Eff T P hv n ops p σ v ms)(h2:Eff T P hv n ops o (σ.put p.dst v ms) v' ms'):
 Eff T P hv n ops o σ v' ms'/\Eff T P hv n ops p (σ.put o.dst v' ms') v ms/\(σ.put p.dst v ms).put o.dst v' ms'=(σ.put o.dst v' ms').put p.dst v ms:=by
 obtain⟨hp1,hp2,hp3⟩:=Oper.apart_spec hpo;have hev:∀x∈o.op.operands,(σ.put p.dst v ms).ev x=σ.ev x:=fun x hx=>Ho;unfold fY1 at hs;split at hs
 ·rename_i t x y t' x' y' hp ho
  have hms:=fJ4 ⟨_,_,_,hp⟩ h1;subst hms;have b1:(σ.put p.dst v []).bx=σ.bx:=Et
  have a1:(σ.put p.dst v []).ar=σ.ar:=Eu
  have s1:Eff T P hv n ops o σ v' ms':=by
   refine mW (σ:=σ.put p.dst v []) (fun hq=>CP) ?_ ?_ ?_ h2
   ·intro t ht
    exact(bU _ _ _ _ (fun e=>hp1 t e ht)).symm
   ·intro _ x hx
    rw[hev x hx];exact V.ok.imp (fun j _=>Gl) (fun j _ _=>Gm) _ (wf x)
   ·intro m _
    cases m with
    |b j cs=>show σ.bx j=_;rw[b1]
    |a j cs=>show σ.ar j=_;rw[a1]
  refine⟨s1,?_,?_⟩
  ·refine fT5 ⟨_,_,_,hp⟩ (fun t ht=>bU _ _ _ _ (fun e=>hp3 t e ht)) (fun k=>?_) h1
   rw[nX];exact fL9 ⟨_,_,_,ho⟩ s1 k
  ·exact Ie
 ·rename_i t x y t' x' y' hp ho
  have hms:=fJ4 ⟨_,_,_,ho⟩ h2;subst hms;have b1:(σ.put o.dst v' []).bx=σ.bx:=Et
  have a1:(σ.put o.dst v' []).ar=σ.ar:=Eu;refine⟨?_,?_,?_⟩
  ·refine fT5 ⟨_,_,_,ho⟩ (fun t ht=>(bU _ _ _ _ (fun e=>hp1 t e ht)).symm) (fun k=>?_) h2
   rw[nX];exact(fL9 ⟨_,_,_,hp⟩ h1 k).symm
  ·exact Ig
  ·exact IA
 ·cases hs
theorem aJ7{ar:Nat->Option AE}{is:List Nat}:∀ {ys xs:List V} {N:Nat} {K:List V->List Mod->Prop},oJ ar is [] ys xs N K->∃vs ms,K vs ms/\∀m∈ms,∃k en,m= .a k en/\ar k=none:=by
 intro ys
 induction ys with
 |nil=>
  intro xs N K h
  cases xs with
  |nil=>exact⟨[],[],h,fun m hm=>Bg⟩
  |cons x r=>exact(h:False).elim
 |cons y r ih=>
  intro xs N K h
  cases xs with
  |nil=>exact(h:False).elim
  |cons x xr=>
   have go:∀(kd:AK) (e:TypeId) (l:List V),(xO ar [] N kd e l x fun v m=>oJ ar is [] r xr (N+1000) fun vs ms=>K (v::vs) (m::ms))->∃vs ms,K vs ms/\∀m∈ms,∃k en,m= .a k en/\ar k=none:=by
    intro kd e l hA;rcases aT3 hA with⟨k,g,en,_,hk,_⟩|⟨hn,hK⟩
    ·cases hk
    ·obtain⟨vs,ms,q1,q2⟩:=ih hK
     refine⟨_,_,q1,fun m hm=>?_⟩;rcases List.mem_cons.1 hm with rfl|hm
     ·exact⟨_,_,rfl,hn⟩
     ·exact q2 m hm
   rw[zL]at h;split at h
   ·exact go _ _ _ h
   ·exact go _ _ _ h
   ·rw[force_eq]at h
    obtain⟨vs,ms,q1,q2⟩:=ih h;exact⟨_,_,q1,q2⟩
theorem bE6{bx:Nat->Option (List V)}{ar:Nat->Option AE}{is0:List Nat}:∀ {bs:List (List V)} {is:List Nat} {N:Nat} {K:List Mod->Prop},aB3 bx ar is0 [] bs is N K->∃ms,K ms/\∀m∈ms,(∃k en,m= .a k en/\ar k=none)\/∃i∈is,m.isB i:=by
 intro bs
 induction bs with
 |nil=>
  intro is N K h
  cases is with
  |nil=>exact⟨[],h,fun m hm=>Bg⟩
  |cons x r=>exact(h:False).elim
 |cons b r ih=>
  intro is N K h
  cases is with
  |nil=>exact(h:False).elim
  |cons i ir=>
   rw[aJ1]at h;split at h
   ·obtain⟨vs,ms,h,q⟩:=aJ7 h
    obtain⟨ns,h,q'⟩:=ih h;refine⟨_,h,fun m hm=>?_⟩;rw[bT]at hm;rcases List.mem_append.1 hm with hm|hm
    ·exact .inl (q m hm)
    ·rcases List.mem_cons.1 hm with rfl|hm
     ·exact .inr ⟨i,Ae,rfl⟩
     ·rcases q' m hm with h|⟨j,hj,h⟩
      ·exact .inl h
      ·exact .inr ⟨j,Gz,h⟩
   ·exact h.elim
theorem bB5{bl:List Nat}(hd:hvOf hv d=some bl)(hmk:memR 88888 bl=false){f:FuncId}{xs:List V}(h:kY T P (.drawn hv) σ d f xs (Is v ms)):∀m∈ms,m.fresh σ\/∃i∈bl,m.isB i:=by
 rcases h.out with⟨ys,r,lend,h1,h2,h3,h4⟩|⟨h0,_⟩|⟨ys,is,bs,r,bs',h0,h1,h2,h3,h4⟩|⟨h0,_⟩
 case inr.inr.inr=>cases h0
 ·have hc:=h2
  simp only[sO,Md.light,Bool.and_eq_true,cond_true,Bool.or_eq_true]at hc;have ho:bD ys xs=[] :=Kw;have hf:cond lend [] (aV σ (bK ys xs))=[] :=Ju
  have hk:∀(ms:List Mod),appR (cond lend [] (aV σ (bK ys xs))) (appR (aX σ (bD ys xs)) ms)=ms:=fun ms=>by
   rw[hf,ho];rfl
  have hre:reuse σ (bD ys xs)=none:=by rw[ho];rfl
  simp only[hk,hre]at h4;obtain⟨v1,ms1,⟨_,q1⟩,q2,q3⟩:=bO7 h4;subst q1;exact fun m hm=> .inl (q2 m hm)
 ·cases h0
 ·unfold Md.may at h0
  simp only[hd,hmk,Bool.false_or,Bool.and_eq_true]at h0;obtain⟨⟨i1,i2⟩,i3⟩:=h0;have ho:ownG ((xs,ys)::eU σ.bx bs is)=[] :=by rw[Nat.beq_eq,iL]at i2;exact List.length_eq_zero_iff.1 i2
  have hw:mF ((xs,ys)::eU σ.bx bs is)=[] :=by rw[Nat.beq_eq,iL]at i3;exact List.length_eq_zero_iff.1 i3
  have his:∀i∈is,i∈bl:=fun i hi=>pM.1 (dY.1 i1 i hi);rw[ho,hw]at h4
  have hfin:∀(a b:List Mod),(∀m∈a,∃k en,m= .a k en/\σ.ar k=none)->(∀m∈b,(∃k en,m= .a k en/\σ.ar k=none)\/∃i∈is,m.isB i)->∀m∈appR (aV σ []) (appR (aX σ []) (appR a b)),m.fresh σ\/∃i∈bl,m.isB i:=by
   intro a b ha hb m hm;have hm':m∈appR a b:=hm;rw[bT]at hm';rcases List.mem_append.1 hm' with h|h
   ·obtain⟨k,en,rfl,hk⟩:=ha m h
    exact .inl hk
   ·rcases hb m h with⟨k,en,rfl,hk⟩|⟨i,hi,hib⟩
    ·exact .inl hk
    ·exact .inr ⟨i,his i hi,hib⟩
  unfold aX2 at h4;split at h4
  ·obtain⟨vs,ms1,h4,q1⟩:=aJ7 h4
   exact Ol
  ·obtain⟨vs,ms1,h4,q1⟩:=aJ7 h4
   cases vs with
   |nil=>exact h4.elim
   |cons x xr=>
    exact Ol
theorem bI3{t:TypeId}{x:Operand}{f:Nat}(h:bW T P (.drawn hv) σ d (.fieldAddr t x f) (Is v ms)):ms=[] :=by
 have h':opVC T σ d (.fieldAddr t x f) (Is v ms):=h;unfold opVC at h'
 have hm:Mo (fun ms=>ms=[]) (fun K=>cond (Nat.blt t (T.n t)) (jB (T.row t) (σ.ev x) f K) False):=by
  refine Mo.cond ?_ Mo.false;unfold jB;split
  ·refine Mo.cond Mo.false ?_
   split
   ·exact Mo.ret _ rfl
   ·exact Mo.bJ fun l=>Mo.ret _ rfl
   ·exact Mo.ret _ rfl
   ·exact Mo.false
  ·exact Mo.false
 exact MQ
theorem bQ7{x:Operand}(h:bW T P (.drawn hv) σ d (.move x) (Is v ms)):ms=[] :=by
 have h':force (σ.ev x) (fun v'=>Is v ms v' []):=h;rw[force_eq]at h';exact h'.2.symm
theorem aH1{x:Operand}(h:bW T P (.drawn hv) σ d (.nilCheck x) (Is v ms)):ms=[] :=by
 have h':cond (dE6 (σ.ev x)) (force (σ.ev x) (fun v'=>Is v ms v' [])) False:=h;obtain⟨_,h'⟩:=aT h';rw[force_eq]at h';exact h'.2.symm
theorem yI{bl:List Nat}(hq:aI5 cl bl p.op=true):(∀(σ:St) d v ms,bW T P (.drawn hv) σ d p.op (Is v ms)->ms=[])/\hvO hv p=false/\
 (cls p.op<=1\/∃i,i∉bl/\∀σ:St,Good cl σ->∀x∈p.op.operands,(σ.ev x).ok (fun j=>j=i) (fun _ _=>False)):=by
 unfold aI5 at hq;split at hq
 ·rename_i t u hop
  split at hq
  ·rename_i i hi
   rw[Bool.and_eq_true]at hq;obtain⟨hq0,hq⟩:=hq;refine⟨fun σ d v ms h=>by rw[hop]at h;exact bS5 h,BN, .inr ⟨i,fun hm=>by simp[hm]at hq,fun σ hg x hx=>?_⟩⟩
   rw[hop]at hx;have:x= .tmp u:=ES;subst this;exact hg.ne hi (by simpa using hq0)
  ·cases hq
 ·rename_i hop
  exact⟨fun σ d v ms h=>by rw[hop]at h;exact bI3 h,BN, .inl DI⟩
 ·rename_i hop
  exact⟨fun σ d v ms h=>by rw[hop]at h;exact bQ7 h,BN, .inl DI⟩
 ·rename_i hop
  exact⟨fun σ d v ms h=>by rw[hop]at h;exact aH1 h,BN, .inl DI⟩
 ·cases hq
theorem wG(hq:aI7 p.op=true):(∀(σ:St) d v ms,bW T P (.drawn hv) σ d p.op (Is v ms)->ms=[])/\hvO hv p=false/\cls p.op<=1:=by
 unfold aI7 at hq;split at hq
 ·rename_i hop
  exact⟨fun σ d v ms h=>by rw[hop]at h;exact bI3 h,BN,DI⟩
 ·rename_i hop
  exact⟨fun σ d v ms h=>by rw[hop]at h;exact bQ7 h,BN,DI⟩
 ·rename_i hop
  exact⟨fun σ d v ms h=>by rw[hop]at h;exact aH1 h,BN,DI⟩
 ·cases hq
theorem bE8(hq:aI7 p.op=true)(h:Eff T P hv n ops p σ v ms):ms=[] :=by
 unfold Eff at h;obtain⟨_,h⟩:=h;split at h
 ·exact(wG (T:=T) (P:=P) (hv:=hv) hq).1 _ _ _ _ h
 ·obtain⟨s,_,h⟩:=h
  rcases h with⟨_,h⟩|⟨_,_,h⟩
  ·exact(wG (T:=T) (P:=P) (hv:=hv) hq).1 _ _ _ _ h
  ·exact h
theorem bU6{bl:List Nat}(hq:aI5 cl bl p.op=true)(h:Eff T P hv n ops p σ v ms):ms=[] :=by
 unfold Eff at h;obtain⟨_,h⟩:=h;split at h
 ·exact(yI (T:=T) (P:=P) (hv:=hv) hq).1 _ _ _ _ h
 ·obtain⟨s,_,h⟩:=h
  rcases h with⟨_,h⟩|⟨_,_,h⟩
  ·exact(yI (T:=T) (P:=P) (hv:=hv) hq).1 _ _ _ _ h
  ·exact h
theorem bP4{bl:List Nat}(hb:blOf hv o=some bl)(h:Eff T P hv n ops o σ v ms):∀m∈ms,m.fresh σ\/∃i∈bl,m.isB i:=by
 unfold blOf at hb;split at hb
 ·rename_i d hc hd
  obtain⟨hb,hmk⟩:hvOf hv d=some bl/\memR 88888 bl=false:=by
   split at hb
   ·rename_i bl' hbl
    cases hmk:memR 88888 bl' with
    |true=>rw[hmk]at hb;cases hb
    |false=>
     rw[hmk]at hb;cases hb;exact⟨hbl,hmk⟩
   ·cases hb
  have key:bW T P (.drawn hv) σ (o.dst.getD n) o.op (Is v ms)->∀m∈ms,m.fresh σ\/∃i∈bl,m.isB i:=by
   intro h;rw[hd]at h;simp only[Option.getD_some]at h;unfold aG7 at hc;split at hc
   ·rename_i cal as ts hop
    rw[hop]at h
    cases cal with
    |func f=>
     have h':bJ (mapR σ.ev as.toList) (fun xs=>kY T P (.drawn hv) σ d f xs (Is v ms)):=h;rw[bC]at h';exact bB5 hb hmk h'
    |tmp t=>
     have h':(match σ.env t with
      | .fn g caps=>cond (isFnC caps) (bJ (mapR σ.ev as.toList) fun xs=>kY T P (.drawn hv) σ d g (argsV caps xs) (Is v ms)) False
      |_=>False):=h
     split at h'
     ·obtain⟨_,h'⟩:=aT h'
      rw[bC]at h';exact bB5 hb hmk h'
     ·exact h'.elim
    |const c=>exact(h:False).elim
    |global g=>exact(h:False).elim
   ·cases hc
  unfold Eff at h;obtain⟨_,h⟩:=h;split at h
  ·exact key h
  ·obtain⟨s,_,h⟩:=h
   rcases h with⟨_,h⟩|⟨_,_,h⟩
   ·exact key h
   ·subst h;intro m hm;cases hm
 ·cases hb
theorem cX5{x:Operand}(hx:x∈o.op.operands)(h:∀t,p.dst=some t->t∉o.looksAt ops.toArray):(σ.put p.dst v ms).ev x=σ.ev x:=by
 cases x with
 |tmp t=>
  refine bU _ _ _ _ (fun e=>h t e ?_);exact Nq
 |const v=>rfl
 |global g=>rfl
 |func f=>rfl
theorem eM0(wf:∀x:Operand,(σ.ev x).ok σ.hasB σ.hasA)(hg:Good cl σ)(hpo:Oper.apart ops.toArray p o=true){bl:List Nat}(hb:blOf hv o=some bl)(hq:aI5 cl bl p.op=true)
 (h1:Eff T P hv n ops p σ v ms)(h2:Eff T P hv n ops o (σ.put p.dst v ms) v' ms'):
 Eff T P hv n ops o σ v' ms'/\Eff T P hv n ops p (σ.put o.dst v' ms') v ms/\(σ.put p.dst v ms).put o.dst v' ms'=(σ.put o.dst v' ms').put p.dst v ms:=by
 obtain⟨hp1,hp2,hp3⟩:=Oper.apart_spec hpo;have hms:=bU6 hq h1;subst hms;obtain⟨_,hnp,hlk⟩:=yI (T:=T) (P:=P) (hv:=hv) hq;have b1:(σ.put p.dst v []).bx=σ.bx:=Et
 have a1:(σ.put p.dst v []).ar=σ.ar:=Eu;have s1:Eff T P hv n ops o σ v' ms':=Ic
 have hmo:=bP4 hb s1;refine⟨s1,?_,?_⟩
 ·refine mW (σ:=σ) (fun hq=>CQ) ?_ ?_ ?_ h1
  ·intro t ht
   exact bU _ _ _ _ (fun e=>hp3 t e ht)
  ·intro hc x hx
   rcases hlk with hlk|⟨i,hi,hlk⟩
   ·omega
   ·have hok:=hlk σ hg x hx
    have hwf:=wf x;refine V.ok.imp ?_ ?_ _ (cD8 hok hwf)
    ·rintro j ⟨rfl,cs,hj⟩
     rw[lT];refine jJ _ _ _ (fun m hm hbm=>?_);exact Oy
    ·rintro k g ⟨h,_⟩;exact h.elim
  ·intro m hm;cases hm
 ·exact Ie
theorem eS5(wf:∀x:Operand,(σ.ev x).ok σ.hasB σ.hasA)(hg:Good cl σ)(hpo:Oper.apart ops.toArray p o=true){bl:List Nat}(hb:blOf hv p=some bl)(hq:aI5 cl bl o.op=true)
 (h1:Eff T P hv n ops p σ v ms)(h2:Eff T P hv n ops o (σ.put p.dst v ms) v' ms'):
 Eff T P hv n ops o σ v' ms'/\Eff T P hv n ops p (σ.put o.dst v' ms') v ms/\(σ.put p.dst v ms).put o.dst v' ms'=(σ.put o.dst v' ms').put p.dst v ms:=by
 obtain⟨hp1,hp2,hp3⟩:=Oper.apart_spec hpo;have hms:=bU6 hq h2;subst hms;obtain⟨_,hno,hlk⟩:=yI (T:=T) (P:=P) (hv:=hv) hq;have hmo:=bP4 hb h1
 have b1:(σ.put o.dst v' []).bx=σ.bx:=Et;have a1:(σ.put o.dst v' []).ar=σ.ar:=Eu
 refine⟨?_,?_,?_⟩
 ·refine mW (σ:=σ.put p.dst v ms) (fun hq=>CP) ?_ ?_ ?_ h2
  ·intro t ht
   exact(bU _ _ _ _ (fun e=>hp1 t e ht)).symm
  ·intro hc x hx
   rw[cX5 hx hp1];rcases hlk with hlk|⟨i,hi,hlk⟩
   ·omega
   ·have hok:=hlk σ hg x hx
    refine V.ok.imp ?_ ?_ _ (cD8 hok (wf x))
    ·rintro j ⟨rfl,cs,hj⟩
     rw[lT];refine(jJ _ _ _ (fun m hm hbm=>?_)).symm;exact Oy
    ·rintro k g ⟨h,_⟩;exact h.elim
  ·intro m hm;cases hm
 ·exact Ii
 ·exact IA
theorem eR7(wf:∀x:Operand,(σ.ev x).ok σ.hasB σ.hasA)(hpo:Oper.apart ops.toArray p o=true)(hq:aI7 p.op=true)
 (h1:Eff T P hv n ops p σ v ms)(h2:Eff T P hv n ops o (σ.put p.dst v ms) v' ms'):
 Eff T P hv n ops o σ v' ms'/\Eff T P hv n ops p (σ.put o.dst v' ms') v ms/\(σ.put p.dst v ms).put o.dst v' ms'=(σ.put o.dst v' ms').put p.dst v ms:=by
 obtain⟨hp1,hp2,hp3⟩:=Oper.apart_spec hpo;have hms:=bE8 hq h1;subst hms;obtain⟨_,hnp,hlk⟩:=wG (T:=T) (P:=P) (hv:=hv) hq;have b1:(σ.put p.dst v []).bx=σ.bx:=Et
 have a1:(σ.put p.dst v []).ar=σ.ar:=Eu;have s1:Eff T P hv n ops o σ v' ms':=Ic
 refine⟨s1,?_,?_⟩
 ·refine mW (σ:=σ) (fun hq=>CQ) ?_ ?_ ?_ h1
  ·intro t ht
   exact bU _ _ _ _ (fun e=>hp3 t e ht)
  ·intro hc x hx
   omega
  ·intro m hm;cases hm
 ·exact Ie
theorem eO9(wf:∀x:Operand,(σ.ev x).ok σ.hasB σ.hasA)(hpo:Oper.apart ops.toArray p o=true)(hq:aI7 o.op=true)
 (h1:Eff T P hv n ops p σ v ms)(h2:Eff T P hv n ops o (σ.put p.dst v ms) v' ms'):
 Eff T P hv n ops o σ v' ms'/\Eff T P hv n ops p (σ.put o.dst v' ms') v ms/\(σ.put p.dst v ms).put o.dst v' ms'=(σ.put o.dst v' ms').put p.dst v ms:=by
 obtain⟨hp1,hp2,hp3⟩:=Oper.apart_spec hpo;have hms:=bE8 hq h2;subst hms;obtain⟨_,hno,hlk⟩:=wG (T:=T) (P:=P) (hv:=hv) hq;have b1:(σ.put o.dst v' []).bx=σ.bx:=Et
 have a1:(σ.put o.dst v' []).ar=σ.ar:=Eu;refine⟨?_,?_,?_⟩
 ·refine mW (σ:=σ.put p.dst v ms) (fun hq=>CP) ?_ ?_ ?_ h2
  ·intro t ht
   exact(bU _ _ _ _ (fun e=>hp1 t e ht)).symm
  ·intro hc x hx
   omega
  ·intro m hm;cases hm
 ·exact Ii
 ·exact IA
end
end Go.Ab
