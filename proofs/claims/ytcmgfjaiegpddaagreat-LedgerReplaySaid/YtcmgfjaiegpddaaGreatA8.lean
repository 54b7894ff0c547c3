/- Lemmas. -/
import Derived.Test.YtcmgfjaiegpddaaGreatA7
set_option linter.all false
noncomputable section
namespace Go.Ab
def Good(cl:List (Nat×Nat))(σ:St):Prop:=∀u i,claim cl u=some i->(σ.env u).ok (λj=>j=i) (λ_ _=>i=77777)
def Good.ne{cl:List (Nat×Nat)}{σ:St}(h:Good cl σ){u i:Nat}(a:claim cl u=some i)(hi:Nat.beq i 77777=false):(σ.env u).ok (λj=>j=i) (λ_ _=>False):=
 V.ok.imp (λ_ h=>h) (λ_ _ h=>by subst h;cases hi) _ (h u i a)
section
variable{T:Tab}{P:Program}{σ σ':St}{n d:Nat}{v v':V}{ms ms':List Mod}{ops:List Oper}{o p:Oper}{K:St->Prop}{cl:List (Nat×Nat)}{hv:List (Nat×List Nat)}
def dC3{env:Nat->V}{bx:Nat->Option (List V)}{ar:Nat->Option AE}{p:Nat->Prop}{q:Nat->Nat->Prop}(j:∀s,(env s).ok p q)(h:cO4 cl env):Good cl ⟨env,bx,ar⟩:=by
 induction cl with
 |nil=>intro u i a;cases a
 |cons q r g=>
  intro u i a;have e:okB q.2 (env q.1)/\cO4 r env:=h;unfold claim at a;rw[List.find?_cons]at a;cases b:Nat.beq q.1 u with
  |true=>
   rw[b]at a;have:=Qp b;subst this;cases a;have f:=e.1;show(env q.1).ok _ _;have c:=j q.1;generalize env q.1=x at f c⊢;unfold okB at f;grind [V.ok,V.okL]
  |false=>
   rw[b]at a;exact g e.2 u i a
def dQ7{r:Row}{x:V}{f:Nat}{i:Nat}(b:x.ok (λj=>j=i) (λ_ _=>i=77777))(h:jB r x f (Is v ms)):v.ok (λj=>j=i) (λ_ _=>i=77777):=by
 unfold jB at h;split at h;rename_i o z q _ _;cases a:Nat.beq z 0 with
 |true=>rw[a]at h;exact h.elim
 |false=>
  rw[a]at h;simp only[Qu]at h;split at h;obtain⟨rfl,_⟩:=h;simp_all [V.ok];rw[bC]at h;exact O6;obtain⟨rfl,_⟩:=h;simp_all [V.ok];exact h.elim
 exact h.elim
def eC5(u:Value)(p:Nat->Prop)(q:Nat->Nat->Prop):(dD8 u).ok p q:=by
 unfold dD8;split;rename_i cs;cases allR Value.oneCell' cs.toList with
 |false=>simp only[Qu,V.ok]
 |true=>
  simp_all [Qo,dU,aH,PI,V.ok]
 simp only[V.ok];simp only[V.ok]
def aC5(a:Good cl σ){x:Operand}{i:Nat}(h:zO cl x i=true):(σ.ev x).ok (λj=>j=i) (λ_ _=>i=77777):=by
 unfold zO at h;split at h;rename_i u;split at h;rename_i j b;have:=Qp h;subst this;exact a u i b;cases h;exact eC5 _ _ _;cases h
def fZ4(a:Good cl σ){x:Operand}{i:Nat}(hi:Nat.beq i 77777=false)(h:zO cl x i=true):(σ.ev x).ok (λj=>j=i) (λ_ _=>False):=
 V.ok.imp (λ_ h=>h) (λ_ _ h=>by subst h;cases hi) _ (aC5 a h)
def fY0{r:Row}{x y:V}{p:Nat->Prop}{q:Nat->Nat->Prop}(hx:x.ok p q)(b:dG6 r.kd=true)(h:gI T r σ x y (Is v ms)):v.ok (λ_=>False) (λ_ _=>True):=by
 have el:∀ {l:List V} {z:V} {k:Nat},V.okL (λ_=>False) (λ_ _=>False) l->l[k]? =some z->V.okL (λ_=>False) (λ_ _=>False) z.cells:=by
  intro l z k hl hz;exact NH
 unfold gI at h;split at h;split at h;exact JE;exact JE;split at h;obtain⟨_,h⟩:=aT (dX h).2;obtain⟨rfl,_⟩:=h;simp only[V.ok];exact h.elim;exact h.elim;rename_i a;rw[a]at b;cases b;exact h.elim
def dQ8{r:Row}{x y:V}{i:Nat}(hx:x.ok (λj=>j=i) (λ_ _=>i=77777))(h:gI T r σ x y (Is v ms)):v.ok (λj=>j=i) (λ_ _=>i=77777):=by
 have el:∀ {l:List V} {z:V} {k:Nat},V.okL (λ_=>False) (λ_ _=>False) l->l[k]? =some z->V.okL (λ_=>False) (λ_ _=>False) z.cells:=by
  intro l z k hl hz;exact NH
 unfold gI at h;split at h;split at h;exact IW;exact IW;simp only[V.ok]at hx;split at h;obtain⟨_,h⟩:=aT (dX h).2;obtain⟨rfl,_⟩:=h;simp only[V.ok];exact hx;exact h.elim;exact h.elim;split at h;rename_i k off;cases hb:(Nat.blt _ r.alen&&Nat.blt r.elem (T.n r.elem))with
 |false=>rw[hb]at h;exact h.elim
 |true=>
  rw[hb]at h;obtain⟨rfl,_⟩:=h;simp_all [V.ok]
 cases hb:(Nat.blt _ r.alen&&Nat.blt r.elem (T.n r.elem))with
 |false=>rw[hb]at h;exact h.elim
 |true=>
  rw[hb]at h;simp only[Qo]at h;rw[bC]at h;exact O6
 exact h.elim;exact h.elim
def bC3{d i:Nat}{xs:List V}(b:d=i)(h:lM σ d xs (Is v ms)):v.ok (λj=>j=i) (λ_ _=>False):=by
 unfold lM at h;split at h;rw[bC]at h;cases a:allR V.one xs with
 |false=>rw[a]at h;exact h.elim
 |true=>
  rw[a]at h;obtain⟨rfl,_⟩:=h;simp only[V.ok];exact b
 exact h.elim
def cG5(B:∀x:Operand,(σ.ev x).ok σ.hasB σ.hasA)(hg:Good cl σ)(hc:aL7 T cl o=true)(h:Eff T P hv n ops o σ v ms):Good cl (σ.put o.dst v ms):=by
 intro u i l;by_cases e:o.dst=some u
 ·rw[e,pI]
  unfold aL7 at hc;rw[e]at hc;simp only[l]at hc
  have key:bW T P (.drawn hv) σ (o.dst.getD n) o.op (Is v ms)->v.ok (λj=>j=i) (λ_ _=>i=77777):=by
   intro h;split at hc;rename_i s x f a;rw[a]at h;have h':opVC T σ (o.dst.getD n) (.fieldAddr s x f) (Is v ms):=h;unfold opVC at h';simp only at h';cases b:Nat.blt s (T.n s)with
   |false=>rw[b]at h';exact h'.elim
   |true=>
    rw[b]at h';exact dQ7 (aC5 hg hc) h'
   rename_i s x f a;rw[a]at h;have h':opVC T σ (o.dst.getD n) (.indexAddr s x f) (Is v ms):=h;unfold opVC at h';simp only at h';cases b:Nat.blt s (T.n s)with
   |false=>rw[b]at h';exact h'.elim
   |true=>
    rw[b]at h';rw[QG]at hc;rcases hc with hc|hc;exact dQ8 (aC5 hg hc) h';rw[Px]at hc;have k:i=77777:=Qp hc.1;exact V.ok.imp (λ_ h=>h.elim) (λ_ _ _=>k) _ (fY0 (B x) hc.2 h')
   rename_i x a;rw[a]at h;have h':opVC T σ (o.dst.getD n) (.move x) (Is v ms):=h;unfold opVC at h';simp only at h';exact OH;rename_i x a;rw[a]at h;have h':opVC T σ (o.dst.getD n) (.nilCheck x) (Is v ms):=h;unfold opVC at h';simp only at h';obtain⟨_,h'⟩:=aT h';exact OH;rename_i t a;have hui:u=i:=Qp hc;rw[a,e]at h;have h':opVC T σ u (.alloc t) (Is v ms):=h;unfold opVC at h';simp only at h';cases b:Nat.blt t (T.n t)with
   |false=>rw[b]at h';exact h'.elim
   |true=>
    rw[b]at h';exact O0
   rename_i t x a;have hui:u=i:=Qp hc;rw[a,e]at h;have h':opVC T σ u (.box t x) (Is v ms):=h;unfold opVC at h';exact O0
   ·rename_i t x y E a
    rw[a]at h;obtain⟨m,w⟩:∃m,m=y:=⟨_,rfl⟩
    have h':bD7 T .rem t (σ.ev x) (σ.ev y) (Is v ms):=by
     unfold bW at h;split at h<;>rename_i c<;>first|(cases c;done)|skip
     injection c with e1 e2 e3 e4 e5
     subst e1 e2 e3 e4 e5;split at h;rename_i r _;cases r;exact h;exact h
    unfold bD7 at h';split at h';rename_i z C A D _ _;by_cases g:z=A;simp only[g,decide_true,Qo]at h';have q:=(dX h').2;obtain⟨rfl,_⟩:=q;unfold lC;simp only[V.ok];simp only[g,decide_false,Qu]at h';exact(h':False).elim;exact h'.elim;exact Ky;obtain⟨_,h'⟩:=aT h';exact(h':False).elim;exact Ky;exact h'.elim
   cases hc
  unfold Eff at h;obtain⟨_,h⟩:=h;split at h;exact key h;obtain⟨s,_,h⟩:=h;rcases h with⟨_,h⟩|⟨_,rfl,_⟩;exact key h;simp only[V.ok,V.okL]
 rw[bU _ _ _ _ e];exact hg u i l
theorem cQ5{t:TypeId}{x y:Operand}(h:bW T P (.drawn hv) σ d (.indexAddr t x y) (Is v ms)):ms=[] :=by
 have h':opVC T σ d (.indexAddr t x y) (Is v ms):=h;unfold opVC at h'
 have hm:Mo (λms=>ms=[]) (λK=>cond (Nat.blt t (T.n t)) (gI T (T.row t) σ (σ.ev x) (σ.ev y) K) False):=by
  refine Mo.cond ?_ Mo.false;unfold gI;split;split;exact KH;exact KH;split;exact Mo.need λ_=>Mo.cond (Mo.ret _ rfl) Mo.false;exact Mo.false;exact Mo.false;split;exact Mo.cond (Mo.ret _ rfl) Mo.false;exact Mo.cond (Mo.bJ λl=>Mo.ret _ rfl) Mo.false;exact Mo.false;exact Mo.false
 exact MP
def bS5{t:TypeId}{x:Operand}(h:bW T P (.drawn hv) σ d (.load t x) (Is v ms)):ms=[] :=by
 have h':opVC T σ d (.load t x) (Is v ms):=h;unfold opVC at h'
 have hm:Mo (λms=>ms=[]) (λK=>cond (Nat.blt t (T.n t)) (pW (T.row t) σ (σ.ev x) K) False):=by
  refine Mo.cond ?_ Mo.false;unfold pW;split;split;exact rM (R:=λms=>ms=[]) rfl _ _;exact Mo.false;exact rM (R:=λms=>ms=[]) rfl _ _;split;exact Mo.need λ_=>Mo.idx λx=>Mo.cond (rM (R:=λms=>ms=[]) rfl _ _) Mo.false;exact Mo.false;exact Mo.false
 exact MP
def cT0{t:TypeId}{x y:Operand}{i:Nat}{q:Nat->Nat->Prop}(c:(σ.ev x).ok (λj=>j=i) q)(h:bW T P (.drawn hv) σ d (.store t x y) (Is v ms)):∀m∈ms,∀j,j≠i->¬m.isB j:=by
 have e:opVC T σ d (.store t x y) (Is v ms):=h;unfold opVC at e
 have a:Mo (λms=>∀m∈ms,∀j,j≠i->¬m.isB j) (λK=>cond (Nat.blt t (T.n t)) (qU (T.row t) σ (σ.ev x) (σ.ev y) K) False):=by
  refine Mo.cond ?_ Mo.false;unfold qU;split;rename_i k off g;rw[g]at c;simp only[V.ok]at c;subst c;split;refine Mo.cond (Mo.bJ λl=>Mo.ret _ ?_) Mo.false;intro m a j f b;cases Py.1 a;exact f b.symm
  exact Mo.false;split;refine Mo.need λ_=>Mo.idx λx=>Mo.cond (Mo.bJ λl=>Mo.ret _ ?_) Mo.false;intro m a j f b;cases Py.1 a;exact b
  exact Mo.false;exact Mo.false
 obtain⟨w,r,⟨_,s⟩,u⟩:=a _ e;simp_all
theorem cL2{as:Array Operand}{e:Array TypeId}(h:bW T P (.drawn hv) σ d (.call ⟨.builtin .append,as,e⟩) (Is v ms)):∀m∈ms,∀j,¬m.isB j:=by
 have one:∀(k:Nat) (en:AE),∀m∈[Mod.a k en],∀j,¬m.isB j:=λk en m hm j f=>by cases Py.1 hm;exact f
 have h':opVC T σ d (.call ⟨.builtin .append,as,e⟩) (Is v ms):=h;unfold opVC at h';split at h'<;>rename_i b<;>try(cases b;done)
 rename_i s x t c
 have hm:Mo (λms=>∀m∈ms,∀j,¬m.isB j) (λK=>cond (Nat.blt t (T.n t)&&Nat.blt c (T.n c)) (kT T (T.row t) (T.row c).kd σ d (σ.ev s) (σ.ev x) K) False):=by
  refine Mo.cond ?_ Mo.false;unfold kT;split;refine Mo.cond (Mo.contsK λxs=>?_) Mo.false;split;exact JJ;exact JJ;exact JJ;exact Mo.false;exact Mo.false
 exact MZ;all_goals exact h'.elim
theorem bG5{t:TypeId}{x:Operand}{lo hi u:Option Operand}(H:∀x:Operand,(σ.ev x).ok σ.hasB σ.hasA)(h:bW T P (.drawn hv) σ d (.slice t x lo hi u) (Is v ms)):
 ms=[]/\∀y∈(Op.slice t x lo hi u).operands,(σ.ev y).ok (λ_=>False) (λk _=>∃en,σ.ar k=some en/\en.kind= .frz):=by
 have a:opVC T σ d (.slice t x lo hi u) (Is v ms):=by
  cases x<;>exact h
 unfold opVC at a;simp only at a
 have z:∀y,y∈(Op.slice t x lo hi u).operands->y=x\/lo=some y\/hi=some y\/u=some y:=by
  grind [Op.operands]
 have lit:∀ {o:Option Operand} {y:Operand} {c:Int} {K:Int->Prop},o=some y->bound (o.map σ.ev) c K->(σ.ev y).ok (λ_=>False) (λk _=>∃en,σ.ar k=some en/\en.kind= .frz):=by
  intro o y c K e f;subst e;simp only[Option.map]at f;generalize σ.ev y=M at f;unfold bound at f;split at f;rename_i e;cases e;rename_i e;cases e;trivial;exact f.elim
 have b:∀ {o:Option V} {c:Int} {K:Int->Prop},bound o c K->∃n,K n:=by
  intro o c K f;unfold bound at f;grind
 have j:∀ {K:List V->Prop},lV σ (σ.ev x) K->(σ.ev x).ok (λ_=>False) (λk _=>∃en,σ.ar k=some en/\en.kind= .frz)/\∃xs,K xs:=by
  intro K B;have I:=H x;generalize σ.ev x=L at B I;unfold lV at B;grind [dX,V.ok]
 cases f:Nat.blt t (T.n t)with
 |false=>rw[f]at a;exact a.elim
 |true=>
  rw[f]at a;simp only[cond]at a;unfold sZ at a;split at a;rename_i s G C;split at a;rename_i i;obtain⟨l,w⟩:=b a;obtain⟨F,g⟩:=b w;have q:=(dX g).2;refine⟨q.2.symm,λy A=>?_⟩;rcases z y A with rfl|e|e|e;rw[C];trivial;exact lit e a;exact lit e w;subst e;cases i;exact a.elim;rename_i G _;cases r:Nat.blt (T.row t).elem (T.n (T.row t).elem)with
  |false=>rw[r]at a;exact a.elim
  |true=>
   rw[r]at a;simp only[cond]at a;obtain⟨C,xs,D⟩:=j a;obtain⟨l,w⟩:=b D;obtain⟨F,g⟩:=b w;split at g;rename_i i;have q:=(dX g).2;refine⟨q.2.symm,λy A=>?_⟩;grind;rename_i m i;split at g;exact g.elim;obtain⟨J,q⟩:=b g;have E:=(dX q).2;refine⟨E.2.symm,λy A=>?_⟩;grind
  exact a.elim
theorem dN0{as:Array Operand}{f:Array TypeId}(h:bW T P (.drawn hv) σ d (.call ⟨.builtin .append,as,f⟩) (Is v ms)):∀m∈ms,∀k en,σ.ar k=some en->en.kind= .frz->¬m.isA k:=by
 have one:∀(k:Nat) (b:AE),(∀en,σ.ar k=some en->en.kind≠ .frz)->∀m∈[Mod.a k b],∀j en,σ.ar j=some en->en.kind= .frz->¬m.isA j:=λk b q m hm j en i h2 l=>by
  cases Py.1 hm;cases l;exact q en i h2
 have h':opVC T σ d (.call ⟨.builtin .append,as,f⟩) (Is v ms):=h;unfold opVC at h';split at h'<;>rename_i c<;>try(cases c;done)
 rename_i s x t e
 have hm:Mo (λms=>∀m∈ms,∀j en,σ.ar j=some en->en.kind= .frz->¬m.isA j) (λK=>cond (Nat.blt t (T.n t)&&Nat.blt e (T.n e)) (kT T (T.row t) (T.row e).kd σ d (σ.ev s) (σ.ev x) K) False):=by
  refine Mo.cond ?_ Mo.false;unfold kT;split;refine Mo.cond (Mo.contsK λxs=>?_) Mo.false;split;exact IU;exact IU;split;rename_i g hd;exact Mo.need λr=>Mo.ret _ (one _ _ (λen he=>by rw[hd]at he;cases he;rcases r.2.1 with h|h<;>rw[h] <;>simp));exact Mo.false;exact Mo.false;exact Mo.false
 exact MZ;all_goals exact h'.elim
def dV9(b:hvO hv o=false)(he:∀t∈o.looksAt ops.toArray,σ'.env t=σ.env t)(k:(∃d,bW T P (.drawn hv) σ d o.op (Is v ms))->1<cls o.op->∀x∈o.op.operands,(σ.ev x).agr σ σ')(l:∀m∈ms,m.same σ σ')(h:Eff T P hv n ops o σ v ms):Eff T P hv n ops o σ' v ms:=by
 have a:∀x∈o.op.operands,σ'.ev x=σ.ev x:=by
  intro x hx;exact Oo
 unfold Eff at*;obtain⟨u,i⟩:=h;refine⟨u,?_⟩;split at i;rename_i w;exact aO9 (λc=>by rw[aP3 b]at c;cases c) a (k ⟨_,i⟩) l i;rename_i j r w;obtain⟨s,z,e⟩:=i
 have y:σ'.env s=σ.env s:=by
  grind [uN,Oper.looksAt,tV]
 refine⟨s,z,?_⟩;rw[y];rcases e with⟨e,q⟩|e;exact .inl ⟨e,aO9 (λc=>by rw[aP3 b]at c;cases c) a (k ⟨_,q⟩) l q⟩;exact .inr e
def cY5(i:hvO hv p=false)(hno:hvO hv o=false)(wf:∀x:Operand,(σ.ev x).ok σ.hasB σ.hasA)(l:Oper.apart ops.toArray p o=true){t:TypeId}{C:Operand}{lo hi B:Option Operand}(y:p.op= .slice t C lo hi B)(w:isApp o.op=true)
 (s:Eff T P hv n ops p σ v ms)(h2:Eff T P hv n ops o (σ.put p.dst v ms) v' ms'):
 Eff T P hv n ops o σ v' ms'/\Eff T P hv n ops p (σ.put o.dst v' ms') v ms/\(σ.put p.dst v ms).put o.dst v' ms'=(σ.put o.dst v' ms').put p.dst v ms:=by
 obtain⟨hp1,z,A⟩:=QI l
 have c:ms=[] :=by
  grind [bG5,Eff]
 subst c;have b1:(σ.put p.dst v []).bx=σ.bx:=Ee;have a1:(σ.put p.dst v []).ar=σ.ar:=Ef;have r:Eff T P hv n ops o σ v' ms':=La
 have D:∀m∈ms',∀k en,σ.ar k=some en->en.kind= .frz->¬m.isA k:=by
  have h2:=r;unfold Eff at h2;obtain⟨_,h2⟩:=h2
  have key:bW T P (.drawn hv) σ (o.dst.getD n) o.op (Is v' ms')->∀m∈ms',∀k en,σ.ar k=some en->en.kind= .frz->¬m.isA k:=by
   intro h;unfold isApp at w;grind [dN0]
  grind
 refine⟨r,?_,?_⟩
 ·refine dV9 i (σ:=σ) ?_ ?_ ?_ s
  ·grind [bU]
  ·rintro⟨d,q⟩ _ x hx
   rw[y]at q hx;refine V.ok.imp ?_ ?_ _ ((bG5 wf q).2 x hx)
   ·intro _ h;exact h.elim
   ·simp_all [nX,lW]
  ·intro m u;cases u
 ·grind [put_comm]
def eC6{as:Array Operand}{b:Array TypeId}(h:bW T P (.drawn hv) σ d (.call ⟨.builtin .len,as,b⟩) (Is v ms)):ms=[] :=by
 have h':opVC T σ d (.call ⟨.builtin .len,as,b⟩) (Is v ms):=h;unfold opVC at h';split at h'<;>rename_i a<;>try(cases a;done)
 rename_i x t
 have hm:Mo (λms=>ms=[]) (λK=>cond (Nat.blt t (T.n t)) (match(T.row t).kd with| .slice=>aE9 σ (σ.ev x) K| .str=>aI4 (σ.ev x) K|_=>False) False):=by
  refine Mo.cond ?_ Mo.false;split;unfold aE9;split;exact Mo.ret _ rfl;exact Mo.ret _ rfl;exact Mo.ret _ rfl;split;exact Mo.need λ_=>Mo.ret _ rfl;exact Mo.false;exact Mo.false;unfold aI4;split;exact Mo.ret _ rfl;exact Mo.false;exact Mo.false
 exact MP;all_goals exact h'.elim
def dL0(hnp:hvO hv p=false)(hno:hvO hv o=false)(wf:∀x:Operand,(σ.ev x).ok σ.hasB σ.hasA)(l:Good cl σ)(q:Oper.apart ops.toArray p o=true)(hs:aM7 cl p.op o.op=true)
 (A:Eff T P hv n ops p σ v ms)(h2:Eff T P hv n ops o (σ.put p.dst v ms) v' ms'):
 Eff T P hv n ops o σ v' ms'/\Eff T P hv n ops p (σ.put o.dst v' ms') v ms/\(σ.put p.dst v ms).put o.dst v' ms'=(σ.put o.dst v' ms').put p.dst v ms:=by
 by_cases k:∃t x lo hi B,p.op= .slice t x lo hi B
 ·obtain⟨t,x,lo,hi,B,k⟩:=k
  rw[k]at hs;exact cY5 hnp hno wf q k hs A h2
 obtain⟨hp1,F,G⟩:=QI q
 obtain⟨i,hs,z,H⟩:∃i,sepO cl i o.op=true/\(∀x∈p.op.operands,(σ.ev x).ok (λj=>j=i) (λ_ _=>False))/\(∀d v ms,bW T P (.drawn hv) σ d p.op (Is v ms)->ms=[]):=by
  unfold aM7 at hs;split at hs;rename_i t u c;split at hs;rename_i i hi;rw[Px]at hs;refine⟨i,hs.2,λx hx=>?_,λd v ms h=>?_⟩;rw[c]at hx;have:x= .tmp u:=Dz;subst this;exact l.ne hi Gg;rw[c]at h;exact bS5 h;cases hs;rename_i t u y c;split at hs;rename_i i hi;rw[Px,Px]at hs;refine⟨i,hs.2.2,λx hx=>?_,λd v ms h=>?_⟩;rw[c]at hx;have:x= .tmp u\/x=y:=Dz;rcases this with rfl|rfl;exact l.ne hi Gg;exact fZ4 l Gg hs.2.1;rw[c]at h;exact cQ5 h;cases hs;simp_all;rename_i u L c;split at hs;rename_i i hi;rw[Px]at hs;refine⟨i,hs.2,λx hx=>?_,λd v ms h=>?_⟩;rw[c]at hx;have:x= .tmp u:=by simpa [Op.operands,Call.operands]using hx
  subst this;exact l.ne hi Gg;rw[c]at h;exact eC6 h;cases hs;cases hs
 have s:ms=[] :=by
  grind [Eff]
 subst s;have b1:(σ.put p.dst v []).bx=σ.bx:=Ee;have a1:(σ.put p.dst v []).ar=σ.ar:=Ef;have C:Eff T P hv n ops o σ v' ms':=La
 have I:∀m∈ms',¬m.isB i:=by
  have h2:=C;unfold Eff at h2;obtain⟨_,h2⟩:=h2
  have key:bW T P (.drawn hv) σ (o.dst.getD n) o.op (Is v' ms')->∀m∈ms',¬m.isB i:=by
   intro h;unfold sepO at hs;split at hs;rename_i J D y w;rw[w]at h;split at hs;rename_i j E;refine λm r=>cT0 (σ:=σ) (x:= .tmp D) (i:=j) (l D j E) h m r i (λe=>?_);subst e;simp at hs;cases hs;grind [cL2];cases hs
  grind
 refine⟨C,?_,?_⟩
 ·refine mW (σ:=σ) (λhq=>DR) ?_ ?_ ?_ A
  ·grind [bU]
  ·intro _ x hx
   refine V.ok.imp ?_ ?_ _ (z x (by simpa using hx))
   ·simp_all [lT,jJ]
   ·intro _ _ h;exact h.elim
  ·intro m r;cases r
 ·grind [put_comm]
mutual
theorem cD8{p p':Nat->Prop}{q a:Nat->Nat->Prop}: {x:V}->x.ok p q->x.ok p' a->x.ok (λi=>p i/\p' i) (λk g=>q k g/\a k g)
 | .box i _,h,h'=>DT
 | .arr k g,h,h'=>DT
 | .ae k g _ _ _,h,h'=>DT
 | .agg cs,h,h'=>Dn
 | .tup cs,h,h'=>Dn
 | .sl l,h,_=>A8
 | .cap l,h,_=>A8
 | .fp l,h,_=>A8
 | .fn _ l,h,h'=>Dn
 | .own _ l,h,_=>A8
 | .ap _ l,h,_=>A8
 | .bot,_,_=>Bq
 | .lit _,_,_=>Bq
theorem aL2{p p':Nat->Prop}{q b:Nat->Nat->Prop}: {l:List V}->V.okL p q l->V.okL p' b l->V.okL (λi=>p i/\p' i) (λk g=>q k g/\b k g) l
 | [],_,_=>BH
 |x::r,h,a=>by simp only[V.okL]at h a⊢;exact⟨cD8 h.1 a.1,aL2 h.2 a.2⟩
end
def Mod.frzA:Mod->Prop
 | .a _ en=>en.kind= .frz
 | .b _ _=>False
def gH6(l:List V):capK l≠ .frz:=by
 unfold capK;split<;>exact λh=>Ag
theorem fO7{as:Array Operand}{f:Array TypeId}(h:bW T P (.drawn hv) σ d (.call ⟨.builtin .append,as,f⟩) (Is v ms)):∀m∈ms,¬m.frzA:=by
 have b:∀(k:Nat) (en:AE),en.kind≠ .frz->∀m∈[Mod.a k en],¬m.frzA:=λk en i m hm g=>by cases Py.1 hm;exact i g
 have h':opVC T σ d (.call ⟨.builtin .append,as,f⟩) (Is v ms):=h;unfold opVC at h';split at h'<;>rename_i c<;>try(cases c;done)
 rename_i s x t e
 have hm:Mo (λms=>∀m∈ms,¬m.frzA) (λK=>cond (Nat.blt t (T.n t)&&Nat.blt e (T.n e)) (kT T (T.row t) (T.row e).kd σ d (σ.ev s) (σ.ev x) K) False):=by
  refine Mo.cond ?_ Mo.false;unfold kT;split;refine Mo.cond (Mo.contsK λxs=>?_) Mo.false;split;split;exact Mo.need λ_=>Mo.ret _ (b _ _ (λh=>Ag));exact Mo.false;split;exact Mo.need λ_=>Mo.ret _ (b _ _ (gH6 _));exact Mo.false;split;exact Mo.need λj=>Mo.ret _ (b _ _ (by rcases j.2.1 with q|q<;>rw[q] <;>exact λh=>by cases h));exact Mo.false;exact Mo.false;exact Mo.false
 exact MZ;all_goals exact h'.elim
theorem fY9{en:AE}{j:Nat}:∀(ms:List Mod) (σ:St),(∀m∈ms,¬m.frzA)->(σ.apps ms).ar j=some en->en.kind= .frz->σ.ar j=some en
 | [],σ,_,h,_=>h
 |m::r,σ,s,h,q=>by
  have t:((m.app σ).apps r).ar j=some en:=h;have g:=fY9 r (m.app σ) (λu f=>s u (Qw _ f)) t q;cases m with
  |b i cs=>exact g
  |a k e=>
   have c:upd σ.ar k (some e) j=some en:=g;by_cases l:j=k;subst l;rw[upd_same]at c;cases c;exact absurd q (s (Mod.a j en) (QU ..));rw[upd_ne _ _ l]at c;exact c
theorem append_gen{as:Array Operand}{i:Array TypeId}(h:bW T P (.drawn hv) σ d (.call ⟨.builtin .append,as,i⟩) (Is v ms)):∀m∈ms,∀k en b,m= .a k en->σ.ar k=some b->b.gen<en.gen:=by
 have one:∀(k:Nat) (en:AE),(∀b,σ.ar k=some b->b.gen<en.gen)->∀m∈[Mod.a k en],∀j c b,m= .a j c->σ.ar j=some b->b.gen<c.gen:=λk en r m hm j c b l q=>by
  cases Py.1 hm;cases l;exact r b q
 have h':opVC T σ d (.call ⟨.builtin .append,as,i⟩) (Is v ms):=h;unfold opVC at h';split at h'<;>rename_i f<;>try(cases f;done)
 rename_i s x t g
 have hm:Mo (λms=>∀m∈ms,∀k en b,m= .a k en->σ.ar k=some b->b.gen<en.gen) (λK=>cond (Nat.blt t (T.n t)&&Nat.blt g (T.n g)) (kT T (T.row t) (T.row g).kd σ d (σ.ev s) (σ.ev x) K) False):=by
  refine Mo.cond ?_ Mo.false;unfold kT;split;refine Mo.cond (Mo.contsK λxs=>?_) Mo.false;split;exact IU;exact IU;split;rename_i e hd;exact Mo.need λu=>Mo.ret _ (one _ _ (λen he=>by rw[hd]at he;cases he;have:=u.1;show e.gen<_+1;omega));exact Mo.false;exact Mo.false;exact Mo.false
 exact MZ;all_goals exact h'.elim
abbrev Live(σ:St)(x:V):Prop:=x.ok (λ_=>True) (λk g=>∃en,σ.ar k=some en/\en.gen=g)
def load_live{r:Row}{x:V}(a:x.ok σ.hasB σ.hasA)(h:pW r σ x (Is v ms)):Live σ x:=by
 unfold pW at h;split at h;simp only[Live,V.ok];simp only[Live,V.ok]at a⊢;exact a;exact J3;exact h.elim
def index_live{r:Row}{x y:V}(a:x.ok σ.hasB σ.hasA)(h:gI T r σ x y (Is v ms)):Live σ x/\Live σ y:=by
 unfold gI at h;split at h;refine⟨?_,by simp only[Live,V.ok]⟩;split at h;simp only[Live,V.ok]at a⊢;exact a;simp only[Live,V.ok]at a⊢;exact a;exact J3;exact h.elim;refine⟨?_,by simp only[Live,V.ok]⟩;split at h;simp only[Live,V.ok];simp only[Live,V.ok]at a⊢;exact a;exact h.elim;exact h.elim
def len_live{x:V}(a:x.ok σ.hasB σ.hasA)(h:aE9 σ x (Is v ms)):Live σ x:=by
 unfold aE9 at h;split at h;simp only[Live,V.ok];simp only[Live,V.ok]at a⊢;exact a;simp only[Live,V.ok]at a⊢;exact a;exact J3;exact h.elim
def slen_live{x:V}(h:aI4 x (Is v ms)):Live σ x:=by
 unfold aI4 at h;split at h;simp only[Live,V.ok];exact h.elim
def apps_ar_last(k:Nat):∀(ms:List Mod) (σ:St),(σ.apps ms).ar k=σ.ar k\/∃en,Mod.a k en∈ms/\(σ.apps ms).ar k=some en
 | [],σ=> .inl rfl
 |m::ms,σ=>by
  have e:σ.apps (m::ms)=(m.app σ).apps ms:=rfl;rw[e];rcases apps_ar_last k ms (m.app σ)with h|⟨en,h1,f⟩;rw[h];cases m with
  |b i cs=>exact .inl rfl
  |a j en=>
   by_cases c:k=j;subst c;exact .inr ⟨en,Af,upd_same _ _ _⟩;exact .inl (upd_ne _ _ c)
  exact .inr ⟨en,FZ,f⟩
def gE0(hnp:hvO hv p=false)(N:hvO hv o=false)(wf:∀x:Operand,(σ.ev x).ok σ.hasB σ.hasA)(r:∀x:Operand,((σ.put p.dst v ms).ev x).ok (σ.put p.dst v ms).hasB (σ.put p.dst v ms).hasA)(hg:Good cl σ)(O:Oper.apart ops.toArray p o=true)(Q:fL7 cl p.op o.op=true)
 (h1:Eff T P hv n ops p σ v ms)(w:Eff T P hv n ops o (σ.put p.dst v ms) v' ms'):
 Eff T P hv n ops o σ v' ms'/\Eff T P hv n ops p (σ.put o.dst v' ms') v ms/\(σ.put p.dst v ms).put o.dst v' ms'=(σ.put o.dst v' ms').put p.dst v ms:=by
 obtain⟨hp1,Z,aa⟩:=QI O;unfold fL7 at Q;rw[Px]at Q;obtain⟨W,D⟩:=Q
 have G:(∀m∈ms,∀j,¬m.isB j)/\(∀m∈ms,¬m.frzA)/\(∀m∈ms,∀k en E,m= .a k en->σ.ar k=some E->E.gen<en.gen):=by
  have u:=h1;unfold Eff at u;obtain⟨_,u⟩:=u;unfold isApp at W;grind [cL2,fO7,append_gen]
 obtain⟨hB,hF,U⟩:=G
 have H:∀j,(σ.put p.dst v ms).bx j=σ.bx j:=λj=>by
  simp_all [lT,jJ]
 have B:∀x∈o.op.operands,(σ.put p.dst v ms).ev x=σ.ev x:=λx hx=>Il
 have c:∀x∈o.op.operands,Live (σ.put p.dst v ms) ((σ.put p.dst v ms).ev x)->(σ.ev x).agr (σ.put p.dst v ms) σ:=λx hx h=>by
  rw[B x hx]at h;refine V.ok.imp (λj _=>(H j).symm) ?_ _ (cD8 h (wf x));rintro k g ⟨⟨en,I,rfl⟩,E,J,Y⟩;rw[nX]at I⊢;rcases apps_ar_last k ms σ with q|⟨S,L,q⟩;exact q.symm;rw[q]at I;cases I;have:=U _ L k en E rfl J;omega
 have key:ms'=[]/\((∃d,bW T P (.drawn hv) (σ.put p.dst v ms) d o.op (Is v' ms'))->∀x∈o.op.operands,(σ.ev x).agr (σ.put p.dst v ms) σ):=by
  have A:=w;unfold Eff at A;obtain⟨_,A⟩:=A
  have s:(∀d,bW T P (.drawn hv) (σ.put p.dst v ms) d o.op (Is v' ms')->ms'=[])->ms'=[] :=λh=>by
   grind
  split at D;rename_i hop;refine⟨s (λd h=>by rw[hop]at h;exact(bG5 r h).1),?_⟩;rintro⟨d,h⟩ x hx;rw[hop]at h hx;have C:=(bG5 r h).2 x hx;rw[B x (by rw[hop];exact hx)]at C;refine V.ok.imp ?_ ?_ _ C;intro _ h;exact h.elim;grind [nX,fY9];rename_i t x hop;refine⟨s (λd h=>by rw[hop]at h;exact bS5 h),?_⟩;rintro⟨d,h⟩ y hy;rw[hop]at h;have i:opVC T (σ.put p.dst v ms) d (.load t x) (Is v' ms'):=h;unfold opVC at i;simp only at i;have l:y=x:=Fb;subst l;exact c y hy (load_live (r y) (aT i).2);rename_i t x z hop;refine⟨s (λd h=>by rw[hop]at h;exact cQ5 h),?_⟩;rintro⟨d,h⟩ y hy;rw[hop]at h;have i:opVC T (σ.put p.dst v ms) d (.indexAddr t x z) (Is v' ms'):=h;unfold opVC at i;simp only at i;have R:=index_live (r x) (aT i).2;have l:y=x\/y=z:=Fb;rcases l with rfl|rfl;exact c _ hy R.1;exact c _ hy R.2;rename_i x t hop;refine⟨s (λd h=>by rw[hop]at h;exact eC6 h),?_⟩;rintro⟨d,h⟩ y hy;rw[hop]at h;have i:opVC T (σ.put p.dst v ms) d (.call ⟨.builtin .len,⟨[x]⟩,⟨[t]⟩⟩) (Is v' ms'):=h;unfold opVC at i;simp only at i;have l:y=x:=by rw[hop]at hy;simpa [Op.operands,Call.operands]using hy
  subst l;have w:=(aT i).2;split at w;exact c y hy (len_live (r y) w);exact c y hy (slen_live w);exact w.elim;cases D
 obtain⟨M,F⟩:=key;subst M;have b1:(σ.put o.dst v' []).bx=σ.bx:=Ee;have a1:(σ.put o.dst v' []).ar=σ.ar:=Ef;refine⟨?_,?_,?_⟩
 ·refine dV9 N (σ:=σ.put p.dst v ms) ?_ ?_ ?_ w
  ·grind [bU]
  ·intro X _ x hx
   rw[B x hx];exact F X x hx
  ·intro m L;cases L
 ·exact IV
 ·grind [put_comm]
def Hd(a b:Option AE):Prop:=match a,b with
 |some x,some y=>x.gen=y.gen/\x.kind=y.kind/\x.ty=y.ty/\x.l.length=y.l.length
 |none,none=>True
 |_,_=>False
def Hd.rfl'(a:Option AE):Hd a a:=by cases a<;>simp[Hd]
def Hd.symm{a b:Option AE}(h:Hd a b):Hd b a:=by
 cases a<;>cases b<;>simp_all [Hd]
def fX4{t:TypeId}{x y:Operand}(h:bW T P (.drawn hv) σ d (.store t x y) (Is v ms))(k:Nat):Hd (σ.ar k) ((σ.apps ms).ar k):=by
 have a:opVC T σ d (.store t x y) (Is v ms):=h;unfold opVC at a;simp only at a;obtain⟨_,a⟩:=aT a;unfold qU at a;split at a;split at a;obtain⟨_,a⟩:=aT a;rw[bC]at a;obtain⟨_,rfl⟩:=a;exact Hd.rfl' _;exact a.elim;rename_i j g sz i off e;split at a;rename_i en b;obtain⟨_,a⟩:=dX a;obtain⟨z,f,a⟩:=cO3 a;obtain⟨_,a⟩:=aT a;rw[bC]at a;obtain⟨_,rfl⟩:=a;show Hd (σ.ar k) (upd σ.ar j (some _) k);by_cases c:k=j;subst c;rw[upd_same,b];exact⟨rfl,rfl,rfl,Af⟩;rw[upd_ne _ _ c];exact Hd.rfl' _;exact a.elim;exact a.elim
def fL9(a:∃t x y,p.op= .store t x y)(h:Eff T P hv n ops p σ v ms)(k:Nat):Hd (σ.ar k) ((σ.apps ms).ar k):=by
 obtain⟨t,x,y,a⟩:=a;unfold Eff at h;rw[a]at h;obtain⟨_,h⟩:=h;split at h;exact fX4 h k;obtain⟨s,_,h⟩:=h;rcases h with⟨_,h⟩|⟨_,_,rfl⟩;exact fX4 h k;exact Hd.rfl' _
def fU8{r:Row}{x y:V}(f:∀k,Hd (σ.ar k) (σ'.ar k))(h:gI T r σ x y (Is v ms)):gI T r σ' x y (Is v ms):=by
 cases x
 case arr k g=>
  have c:=f k;unfold gI at h⊢;split at h;rename_i i;simp only at h⊢;generalize σ.ar k=a at h c;generalize σ'.ar k=b at c⊢;cases a with
  |none=>exact h.elim
  |some en=>
   cases b with
   |none=>exact c.elim
   |some e=>
    obtain⟨s,t⟩:=dX h;obtain⟨j,l,m,q⟩:=c;simp_all
  exact h.elim;exact h.elim
 all_goals exact h
def fT5(b:∃t x y,o.op= .indexAddr t x y)(he:∀t∈o.looksAt ops.toArray,σ'.env t=σ.env t)(m:∀k,Hd (σ.ar k) (σ'.ar k))(h:Eff T P hv n ops o σ v ms):Eff T P hv n ops o σ' v ms:=by
 obtain⟨t,x,y,b⟩:=b
 have a:∀z∈o.op.operands,σ'.ev z=σ.ev z:=by
  intro z hz;exact Oq
 have e:σ'.ev x=σ.ev x:=a x (by rw[b];simp[Op.operands]);have i:σ'.ev y=σ.ev y:=a y (by rw[b];simp[Op.operands])
 have key:∀d,bW T P (.drawn hv) σ d o.op (Is v ms)->bW T P (.drawn hv) σ' d o.op (Is v ms):=by
  intro d h;rw[b]at h⊢;have c:opVC T σ d (.indexAddr t x y) (Is v ms):=h;show opVC T σ' d (.indexAddr t x y) (Is v ms);unfold opVC at c⊢;simp only at c⊢;obtain⟨j,l⟩:=aT c;rw[j,e,i];exact fU8 m l
 grind [uN,Eff,Oper.looksAt,tV]
def fJ4(a:∃t x y,o.op= .indexAddr t x y)(h:Eff T P hv n ops o σ v ms):ms=[] :=by
 grind [cQ5,Eff]
def gJ0(hnp:hvO hv p=false)(hno:hvO hv o=false)(wf:∀x:Operand,(σ.ev x).ok σ.hasB σ.hasA)(u:Oper.apart ops.toArray p o=true)(w:fY1 p.op o.op=true)
 (h1:Eff T P hv n ops p σ v ms)(q:Eff T P hv n ops o (σ.put p.dst v ms) v' ms'):
 Eff T P hv n ops o σ v' ms'/\Eff T P hv n ops p (σ.put o.dst v' ms') v ms/\(σ.put p.dst v ms).put o.dst v' ms'=(σ.put o.dst v' ms').put p.dst v ms:=by
 obtain⟨hp1,B,s⟩:=QI u;have r:∀x∈o.op.operands,(σ.put p.dst v ms).ev x=σ.ev x:=λx hx=>Il;unfold fY1 at w;split at w
 ·rename_i t x y C x' D l i
  have c:=fJ4 ⟨_,_,_,l⟩ h1;subst c;have b1:(σ.put p.dst v []).bx=σ.bx:=Ee;have a1:(σ.put p.dst v []).ar=σ.ar:=Ef
  have A:Eff T P hv n ops o σ v' ms':=by
   refine mW (σ:=σ.put p.dst v []) (λhq=>DN) ?_ ?_ ?_ q;grind [bU];intro _ x hx;rw[r x hx];exact V.ok.imp (λj _=>Gv) (λj _ _=>Gw) _ (wf x);intro m _;cases m with
   |b j cs=>show σ.bx j=_;rw[b1]
   |a j cs=>show σ.ar j=_;rw[a1]
  refine⟨A,?_,?_⟩
  ·refine fT5 ⟨_,_,_,l⟩ (λt z=>bU _ _ _ _ (λe=>s t e z)) (λk=>?_) h1
   rw[nX];exact fL9 ⟨_,_,_,i⟩ A k
  ·grind [put_comm]
 ·rename_i t x y C x' D l i
  have c:=fJ4 ⟨_,_,_,i⟩ q;subst c;have b1:(σ.put o.dst v' []).bx=σ.bx:=Ee;have a1:(σ.put o.dst v' []).ar=σ.ar:=Ef;refine⟨?_,?_,?_⟩
  ·refine fT5 ⟨_,_,_,i⟩ (λt z=>(bU _ _ _ _ (λe=>hp1 t e z)).symm) (λk=>?_) q
   rw[nX];exact(fL9 ⟨_,_,_,l⟩ h1 k).symm
  ·exact IV
  ·grind [put_comm]
 ·cases w
def Mod.okA(σ:St):Mod->Prop
 | .a k en=>∀e0,σ.ar k=some e0->en.kind= .dead\/e0.gen<en.gen\/(en.gen=e0.gen/\en.l=e0.l/\e0.kind≠ .dead)
 | .b _ _=>False
def aJ7{is ok:List Nat}:∀ {ys xs:List V} {N:Nat} {K:List V->List Mod->Prop},oJ σ.ar is ok ys xs N K->∃vs ms,K vs ms/\∀m∈ms,m.okA σ:=by
 intro ys;induction ys with
 |nil=>
  intro xs N K h;cases xs with
  |nil=>exact⟨[],[],h,λm hm=>GI⟩
  |cons x r=>exact(h:False).elim
 |cons y r f=>
  intro xs N K h;cases xs with
  |nil=>exact(h:False).elim
  |cons x xr=>
   have u:∀(i:AK) (e:TypeId) (l:List V),(xO σ.ar ok N i e l x λv m=>oJ σ.ar is ok r xr (N+1000) λvs ms=>K (v::vs) (m::ms))->∃vs ms,K vs ms/\∀m∈ms,m.okA σ:=by
    intro i e l q;rcases aT3 q with⟨k,g,en,_,w,s,hK⟩|⟨t,hK⟩;obtain⟨vs,ms,b,c⟩:=f hK;refine⟨_,_,b,λm hm=>?_⟩;rcases P5.1 hm with rfl|hm;intro j a;rw[s]at a;cases a;exact .inr (.inl (Nat.lt_succ_self _));exact c m hm;obtain⟨vs,ms,b,c⟩:=f hK;refine⟨_,_,b,λm hm=>?_⟩;rcases P5.1 hm with rfl|hm;intro j a;rw[t]at a;cases a;exact c m hm
   grind [zL,force_eq]
def bE6{is0 ok:List Nat}:∀ {bs:List (List V)} {is:List Nat} {N:Nat} {K:List Mod->Prop},aB3 σ.bx σ.ar is0 ok bs is N K->∃ms,K ms/\∀m∈ms,m.okA σ\/∃i∈is,m.isB i:=by
 intro bs;induction bs with
 |nil=>
  intro is N K h;cases is with
  |nil=>exact⟨[],h,λm hm=>GI⟩
  |cons x r=>exact(h:False).elim
 |cons b r e=>
  intro is N K h;cases is with
  |nil=>exact(h:False).elim
  |cons i g=>
   rw[aJ1]at h;split at h;obtain⟨vs,ms,h,q⟩:=aJ7 h;obtain⟨ns,h,f⟩:=e h;refine⟨_,h,λm hm=>?_⟩;rw[bT]at hm;rcases Pv.1 hm with hm|hm;exact .inl (q m hm);rcases P5.1 hm with rfl|hm;exact .inr ⟨i,Af,rfl⟩;rcases f m hm with h|⟨c,a,h⟩;exact .inl h;exact .inr ⟨c,by simp[a],h⟩;exact h.elim
def dead_okA(c:List Nat):∀m∈aX σ c,m.okA σ:=by
 induction c with
 |nil=>intro m hm;cases hm
 |cons x r ih=>
  intro m hm;have b:aX σ (x::r)=(match σ.ar x with|some en=>Mod.a x ⟨en.gen, .dead,en.ty,[]⟩::aX σ r|none=>aX σ r):=rfl;rw[b]at hm;split at hm;exact KF;exact ih m hm
def frz_okA(c:List Nat):∀m∈aV σ c,m.okA σ:=by
 induction c with
 |nil=>intro m hm;cases hm
 |cons x r ih=>
  intro m hm
  have b:aV σ (x::r)=(match σ.ar x with
   |some en=>match en.kind with
    | .own=>Mod.a x ⟨en.gen, .frz,en.ty,en.l⟩::aV σ r
    | .ap=> .a x ⟨en.gen, .frz,en.ty,en.l⟩::aV σ r
    | .frz=>aV σ r
    | .dead=>match en.l with| [] =>aV σ r|_::_=> .a x ⟨en.gen, .dead,en.ty,[]⟩::aV σ r
   |none=>aV σ r):=rfl
  rw[b]at hm;split at hm;rename_i en he;split at hm;exact J8;exact J8;exact ih m hm;split at hm;exact ih m hm;exact KF;exact ih m hm
def bB5{e:List Nat}(C:hvOf hv d=some e)(q:memR 88888 e=false){f:FuncId}{xs:List V}(h:kY T P (.drawn hv) σ d f xs (Is v ms)):∀m∈ms,m.okA σ\/m.fresh σ\/∃i∈e,m.isB i:=by
 rcases h.out with⟨ys,r,lend,y,t,z,h4⟩|⟨c,_⟩|⟨ys,is,bs,r,w,c,y,t,z,h4⟩|⟨c,_⟩;case inr.inr.inr=>cases c
 have hc:=t;simp only[sO,Md.light,Px,Qo,QG]at hc
 have u:bD ys xs=[] :=by
  grind [QJ,iL,PV]
 have D:cond lend [] (aV σ (bK ys xs))=[] :=JL
 have E:∀(ms:List Mod),appR (cond lend [] (aV σ (bK ys xs))) (appR (aX σ (bD ys xs)) ms)=ms:=λms=>by
  rw[D,u];rfl
 have s:reuse σ (bD ys xs)=none:=by rw[u];rfl
 simp only[E,s]at h4;obtain⟨G,g,⟨_,q1⟩,q2,F⟩:=bO7 h4;intro m l;exact .inr (.inl (by simp_all));cases c;unfold Md.may at c;simp only[C,q,Bool.false_or]at c;have k:∀i∈is,i∈e:=λi hi=>pM.1 (dY.1 c i hi)
 have hfin:∀(a b:List Mod),(∀m∈a,m.okA σ)->(∀m∈b,m.okA σ\/∃i∈is,m.isB i)->∀m∈appR (aV σ (mF ((xs,ys)::eU σ.bx bs is))) (appR (aX σ (ownG ((xs,ys)::eU σ.bx bs is))) (appR a b)),m.okA σ\/m.fresh σ\/∃i∈e,m.isB i:=by
  intro a b A B m l;rw[bT,bT,bT]at l;rcases Pv.1 l with h|h;exact .inl (frz_okA _ m h);rcases Pv.1 h with h|h;exact .inl (dead_okA _ m h);rcases Pv.1 h with h|h;exact .inl (A m h);rcases B m h with h|⟨i,hi,j⟩;exact .inl h;exact .inr (.inr ⟨i,k i hi,j⟩)
 unfold aX2 at h4;split at h4;obtain⟨vs,g,h4,q1⟩:=aJ7 h4;exact Ox;obtain⟨vs,g,h4,q1⟩:=aJ7 h4;cases vs with
 |nil=>exact h4.elim
 |cons x xr=>
  exact Ox
def bI3{t:TypeId}{x:Operand}{f:Nat}(h:bW T P (.drawn hv) σ d (.fieldAddr t x f) (Is v ms)):ms=[] :=by
 have h':opVC T σ d (.fieldAddr t x f) (Is v ms):=h;unfold opVC at h'
 have hm:Mo (λms=>ms=[]) (λK=>cond (Nat.blt t (T.n t)) (jB (T.row t) (σ.ev x) f K) False):=by
  refine Mo.cond ?_ Mo.false;unfold jB;split;refine Mo.cond Mo.false ?_;split;exact Mo.ret _ rfl;exact Mo.bJ λl=>Mo.ret _ rfl;exact Mo.ret _ rfl;exact Mo.false;exact Mo.false
 exact MP
def build_mods{t:TypeId}{a:Array (Nat×Operand)}(h:bW T P (.drawn hv) σ d (.build t a) (Is v ms)):ms=[] :=by
 have h':cond (Nat.blt t (T.n t)) (vO T (T.row t) σ a.toList (Is v ms)) False:=h
 have hm:Mo (λms=>ms=[]) (λK=>cond (Nat.blt t (T.n t)) (vO T (T.row t) σ a.toList K) False):=by
  refine Mo.cond ?_ Mo.false;unfold vO;split;exact Mo.oI (Φ:=λcs K=>K (.agg cs) []) λl=>Mo.ret _ rfl;exact Mo.cond (Mo.oI (Φ:=λcs K=>K (.agg cs) []) λl=>Mo.ret _ rfl) Mo.false;exact Mo.false
 exact MP
def bQ7{x:Operand}(h:bW T P (.drawn hv) σ d (.move x) (Is v ms)):ms=[] :=by
 have a:force (σ.ev x) (λv'=>Is v ms v' []):=h;rw[force_eq]at a;exact a.2.symm
def aH1{x:Operand}(h:bW T P (.drawn hv) σ d (.nilCheck x) (Is v ms)):ms=[] :=by
 have a:cond (dE6 (σ.ev x)) (force (σ.ev x) (λv'=>Is v ms v' [])) False:=h;obtain⟨_,a⟩:=aT a;rw[force_eq]at a;exact a.2.symm
def yI{g:List Nat}(a:aI5 cl g p.op=true):(∀(σ:St) d v ms,bW T P (.drawn hv) σ d p.op (Is v ms)->ms=[])/\hvO hv p=false/\
 (cls p.op<=1\/∃i,i∉g/\∀σ:St,Good cl σ->∀x∈p.op.operands,(σ.ev x).ok (λj=>j=i) (λ_ _=>False)):=by
 unfold aI5 at a;split at a
 ·rename_i t u hop
  split at a
  ·rename_i i hi
   rw[Px]at a;obtain⟨b,a⟩:=a;refine⟨λσ d v ms h=>by rw[hop]at h;exact bS5 h,Bj, .inr ⟨i,λf=>by simp[f]at a,λσ e x hx=>?_⟩⟩;rw[hop]at hx;have:x= .tmp u:=Dz;subst this;exact e.ne hi (by simpa using b)
  ·cases a
 ·rename_i t u c hop
  split at a
  ·rename_i i hi
   rw[Px]at a;obtain⟨b,a⟩:=a;refine⟨λσ d v ms h=>by rw[hop]at h;exact cQ5 h,Bj, .inr ⟨i,λf=>by simp[f]at a,λσ e x hx=>?_⟩⟩;rw[hop]at hx;have:x= .tmp u\/x= .const c:=Dz;rcases this with rfl|rfl
   ·exact e.ne hi (by simpa using b)
   ·exact eC5 _ _ _
  ·cases a
 ·rename_i hop
  exact⟨λσ d v ms h=>by rw[hop]at h;exact bI3 h,Bj, .inl Df⟩
 ·rename_i hop
  exact⟨λσ d v ms h=>by rw[hop]at h;exact bQ7 h,Bj, .inl Df⟩
 ·rename_i hop
  exact⟨λσ d v ms h=>by rw[hop]at h;exact aH1 h,Bj, .inl Df⟩
 ·cases a
def wG(a:aI7 p.op=true):(∀(σ:St) d v ms,bW T P (.drawn hv) σ d p.op (Is v ms)->ms=[])/\hvO hv p=false/\cls p.op<=1:=by
 unfold aI7 at a;split at a;rename_i hop;exact⟨λσ d v ms h=>by rw[hop]at h;exact bI3 h,Bj,Df⟩;rename_i hop;exact⟨λσ d v ms h=>by rw[hop]at h;exact bQ7 h,Bj,Df⟩;rename_i hop;exact⟨λσ d v ms h=>by rw[hop]at h;exact build_mods h,Bj,Df⟩;rename_i hop;exact⟨λσ d v ms h=>by rw[hop]at h;exact aH1 h,Bj,Df⟩;cases a
def bE8(a:aI7 p.op=true)(h:Eff T P hv n ops p σ v ms):ms=[] :=by
 unfold Eff at h;obtain⟨_,h⟩:=h;split at h;exact(wG (T:=T) (P:=P) (hv:=hv) a).1 _ _ _ _ h;obtain⟨s,_,h⟩:=h;rcases h with⟨_,h⟩|⟨_,_,h⟩;exact(wG (T:=T) (P:=P) (hv:=hv) a).1 _ _ _ _ h;exact h
def bU6{b:List Nat}(a:aI5 cl b p.op=true)(h:Eff T P hv n ops p σ v ms):ms=[] :=by
 unfold Eff at h;obtain⟨_,h⟩:=h;split at h;exact(yI (T:=T) (P:=P) (hv:=hv) a).1 _ _ _ _ h;obtain⟨s,_,h⟩:=h;rcases h with⟨_,h⟩|⟨_,_,h⟩;exact(yI (T:=T) (P:=P) (hv:=hv) a).1 _ _ _ _ h;exact h
def bP4{j:List Nat}(e:blOf hv o=some j)(h:Eff T P hv n ops o σ v ms):∀m∈ms,m.okA σ\/m.fresh σ\/∃i∈j,m.isB i:=by
 unfold blOf at e;split at e;rename_i d q s
 obtain⟨e,k⟩:hvOf hv d=some j/\memR 88888 j=false:=by
  grind
 have key:bW T P (.drawn hv) σ (o.dst.getD n) o.op (Is v ms)->∀m∈ms,m.okA σ\/m.fresh σ\/∃i∈j,m.isB i:=by
  intro h;rw[s]at h;simp only[QT]at h;unfold aG7 at q;split at q;rename_i l as u r;rw[r]at h;cases l with
  |func f=>
   have a:bJ (mapR σ.ev as.toList) (λxs=>kY T P (.drawn hv) σ d f xs (Is v ms)):=h;rw[bC]at a;exact bB5 e k a
  |tmp t=>
   have a:(match σ.env t with
    | .fn g b=>cond (isFnC b) (bJ (mapR σ.ev as.toList) λxs=>kY T P (.drawn hv) σ d g (argsV b xs) (Is v ms)) False
    |_=>False):=h
   split at a;obtain⟨_,a⟩:=aT a;rw[bC]at a;exact bB5 e k a;exact a.elim
  |const c=>exact(h:False).elim
  |global g=>exact(h:False).elim
  cases q
 grind [Eff];cases e
def cX5{x:Operand}(hx:x∈o.op.operands)(h:∀t,p.dst=some t->t∉o.looksAt ops.toArray):(σ.put p.dst v ms).ev x=σ.ev x:=by
 cases x with
 |tmp t=>
  refine bU _ _ _ _ (λe=>h t e ?_);exact N9
 |const v=>rfl
 |global g=>rfl
 |func f=>rfl
def eM0(wf:∀x:Operand,(σ.ev x).ok σ.hasB σ.hasA)(w:Good cl σ)(l:Oper.apart ops.toArray p o=true){r:List Nat}(u:blOf hv o=some r)(hq:aI5 cl r p.op=true)
 (s:Eff T P hv n ops p σ v ms)(h2:Eff T P hv n ops o (σ.put p.dst v ms) v' ms'):
 Eff T P hv n ops o σ v' ms'/\Eff T P hv n ops p (σ.put o.dst v' ms') v ms/\(σ.put p.dst v ms).put o.dst v' ms'=(σ.put o.dst v' ms').put p.dst v ms:=by
 obtain⟨hp1,y,z⟩:=QI l;have e:=bU6 hq s;subst e;obtain⟨_,hnp,c⟩:=yI (T:=T) (P:=P) (hv:=hv) hq;have b1:(σ.put p.dst v []).bx=σ.bx:=Ee;have a1:(σ.put p.dst v []).ar=σ.ar:=Ef;have t:Eff T P hv n ops o σ v' ms':=IJ;have hmo:=bP4 u t;refine⟨t,?_,?_⟩
 ·refine mW (σ:=σ) (λhq=>DR) ?_ ?_ ?_ s
  ·grind [bU]
  ·intro A x hx
   rcases c with c|⟨i,hi,c⟩
   ·omega
   ·have f:=c σ w x hx
    have q:=wf x;refine V.ok.imp ?_ ?_ _ (cD8 f q)
    ·rintro j ⟨rfl,cs,hj⟩
     rw[lT];refine jJ _ _ _ (λm hm hbm=>?_);exact Nz
    ·rintro k g ⟨h,_⟩;exact h.elim
  ·intro m hm;cases hm
 ·grind [put_comm]
def eS5(wf:∀x:Operand,(σ.ev x).ok σ.hasB σ.hasA)(u:Good cl σ)(q:Oper.apart ops.toArray p o=true){r:List Nat}(t:blOf hv p=some r)(hq:aI5 cl r o.op=true)
 (h1:Eff T P hv n ops p σ v ms)(s:Eff T P hv n ops o (σ.put p.dst v ms) v' ms'):
 Eff T P hv n ops o σ v' ms'/\Eff T P hv n ops p (σ.put o.dst v' ms') v ms/\(σ.put p.dst v ms).put o.dst v' ms'=(σ.put o.dst v' ms').put p.dst v ms:=by
 obtain⟨l,w,y⟩:=QI q;have e:=bU6 hq s;subst e;obtain⟨_,hno,c⟩:=yI (T:=T) (P:=P) (hv:=hv) hq;have hmo:=bP4 t h1;have b1:(σ.put o.dst v' []).bx=σ.bx:=Ee;have a1:(σ.put o.dst v' []).ar=σ.ar:=Ef;refine⟨?_,?_,?_⟩
 ·refine mW (σ:=σ.put p.dst v ms) (λhq=>DN) ?_ ?_ ?_ s
  ·grind [bU]
  ·intro z x hx
   rw[cX5 hx l];rcases c with c|⟨i,hi,c⟩
   ·omega
   ·have f:=c σ u x hx
    refine V.ok.imp ?_ ?_ _ (cD8 f (wf x))
    ·rintro j ⟨rfl,cs,hj⟩
     rw[lT];refine(jJ _ _ _ (λm hm hbm=>?_)).symm;exact Nz
    ·rintro k g ⟨h,_⟩;exact h.elim
  ·intro m hm;cases hm
 ·exact Ir
 ·grind [put_comm]
def loc_lenB{x:V}{σ σ':St}(i:∀k g a,x= .arr k g->σ'.ar k=some a->a.gen=g->a.kind≠ .dead->∃en,σ.ar k=some en/\en.gen=g/\en.kind≠ .dead/\en.l=a.l)(h:aE9 σ' x (Is v ms)):aE9 σ x (Is v ms):=by
 cases x
 case arr k g=>
  unfold aE9 at h⊢;simp only at h⊢;split at h;rename_i a f;obtain⟨⟨c,e⟩,b⟩:=dX h;obtain⟨en,j,m,q,r⟩:=i k g a rfl f c e;rw[j];simp only;rw[<-r]at b;exact⟨⟨⟨m,q⟩,b⟩⟩;exact h.elim
 case lit u=>
  unfold aE9 at h⊢;split at h<;>first|exact h|exact h.elim|cases ‹V.lit u=_›
  all_goals exact h
 all_goals exact h
def swap_hl(wf:∀x:Operand,(σ.ev x).ok σ.hasB σ.hasA)(A:Oper.apart ops.toArray p o=true){E:List Nat}(H:blOf hv p=some E)(B:isLen o.op=true)
 (h1:Eff T P hv n ops p σ v ms)(U:Eff T P hv n ops o (σ.put p.dst v ms) v' ms'):
 Eff T P hv n ops o σ v' ms'/\Eff T P hv n ops p (σ.put o.dst v' ms') v ms/\(σ.put p.dst v ms).put o.dst v' ms'=(σ.put o.dst v' ms').put p.dst v ms:=by
 obtain⟨z,O,Q⟩:=QI A
 obtain⟨x,t,hop⟩:∃x t,o.op= .call ⟨.builtin .len,⟨[x]⟩,⟨[t]⟩⟩:=by
  unfold isLen at B;split at B;rename_i x t h;exact⟨x,t,h⟩;cases B
 have N:hvO hv o=false:=Bj;have w:=bP4 H h1
 have y:ms'=[] :=by
  have:∀d,bW T P (.drawn hv) (σ.put p.dst v ms) d o.op (Is v' ms')->ms'=[] :=λd h=>by rw[hop]at h;exact eC6 h
  grind [Eff]
 subst y;have b1:(σ.put o.dst v' []).bx=σ.bx:=Ee;have a1:(σ.put o.dst v' []).ar=σ.ar:=Ef;have C:x∈o.op.operands:=Fj;have G:(σ.put p.dst v ms).ev x=σ.ev x:=cX5 C z
 have key:∀d,bW T P (.drawn hv) (σ.put p.dst v ms) d o.op (Is v' [])->bW T P (.drawn hv) σ d o.op (Is v' []):=by
  intro d h;rw[hop]at h⊢;have u:opVC T (σ.put p.dst v ms) d (.call ⟨.builtin .len,⟨[x]⟩,⟨[t]⟩⟩) (Is v' []):=h;show opVC T σ d (.call ⟨.builtin .len,⟨[x]⟩,⟨[t]⟩⟩) (Is v' []);unfold opVC at u⊢;simp only at u⊢;obtain⟨F,f⟩:=aT u;rw[F];simp only[Qo];rw[G]at f;split at f;refine loc_lenB ?_ f;intro k g s L c I l;have r:=wf x;rw[L]at r;obtain⟨D,e,J⟩:σ.hasA k g:=by simpa only[V.ok]using r
  rw[nX]at c;rcases apps_ar_last k ms σ with h|⟨en,M,h⟩;rw[h]at c;exact⟨s,c,I,l,rfl⟩;rw[h]at c;cases c;rcases w _ M with q|q|⟨i,_,q⟩;rcases q D e with q|q|⟨X,R,S⟩;exact absurd q l;omega;exact⟨D,e,Aa,S,R.symm⟩;have:σ.ar k=none:=q;rw[this]at e;cases e;exact q.elim;exact f;exact f.elim
 refine⟨?_,?_,?_⟩
 ·have W:∀t∈o.looksAt ops.toArray,σ.env t=(σ.put p.dst v ms).env t:=by grind [bU]
  grind [uN,Eff,Oper.looksAt,tV]
 ·exact Ir
 ·grind [put_comm]
def grps_more{b a:Nat->Option (List V)}:∀ {bs:List (List V)} {is:List Nat},(∀i∈is,a i=b i)->eU a bs is=eU b bs is
 | [],_,_=>rfl
 |_::_,[],_=>rfl
 |c::bs,i::is,h=>by
  show(match a i with|some cs=>cs|none=> [],c)::eU a bs is=(match b i with|some cs=>cs|none=> [],c)::eU b bs is;rw[h i Af,grps_more (λj hj=>h j GH)]
def backB_more{b a:Nat->Option (List V)}{ar:Nat->Option AE}{is0 ok:List Nat}:∀(bs:List (List V)) (is:List Nat),(∀i∈is,a i=b i)->aB3 a ar is0 ok bs is=aB3 b ar is0 ok bs is
 | [],_,_=>rfl
 |_::_,[],_=>rfl
 |c::bs,i::is,h=>by
  funext N K;rw[aJ1,aJ1,h i Af,backB_more bs is (λj hj=>h j GH)]
def call_more{f:FuncId}{xs:List V}{K:VK}(w:∀i cs,σ.bx i=some cs->σ'.bx i=some cs)(u:σ'.ar=σ.ar)(h:kY T P (.drawn hv) σ d f xs K):kY T P (.drawn hv) σ' d f xs K:=by
 obtain⟨env,bx,ar⟩:=σ;obtain⟨s,a,m⟩:=σ';simp only at w u;subst u;rcases h.out with q|⟨g,_⟩|⟨ys,is,bs,r,c,g,q,t,y,z⟩|⟨g,_⟩;exact⟨.inl q⟩;cases g
 have hi:∀i∈is,a i=bx i:=by
  intro i hi;have b:=t;unfold zA at b;simp only[Px]at b;have x:isS (bx i)=true:=dY.1 b.1.1.1.2 i hi;cases e:bx i with
  |none=>rw[e]at x;cases x
  |some cs=>exact w i cs e
 have l:eU a bs is=eU bx bs is:=grps_more hi;refine⟨.inr (.inr (.inl ⟨ys,is,bs,r,c,?_,?_,?_,y,?_⟩))⟩;show Md.may _ d is ((xs,ys)::eU a bs is)=true;rw[l];exact g;show xM T _ is ((xs,ys)::eU a bs is);rw[l];exact q;show zA a ((xs,ys)::eU a bs is) is bs r=true;rw[l]
 have e:allR (λi=>isS (a i)) is=allR (λi=>isS (bx i)) is:=by
  rw[Qv,dY,dY];exact⟨λh i k=>by rw[<-hi i k];exact h i k,λh i k=>by rw[hi i k];exact h i k⟩
 have b:=t;unfold zA at b⊢;rw[e];exact b;show aX2 a _ is (ownG ((xs,ys)::eU a bs is)) d r c _;have e:=λ(ok:List Nat)=>backB_more (ar:=m) (is0:=is) (ok:=ok) c is hi;rw[l];have j:=z;unfold aX2 at j⊢;simp only[e];exact j;cases g
def eff_more{w:List Nat}(m:blOf hv o=some w)(he:∀t∈o.looksAt ops.toArray,σ'.env t=σ.env t)(k:∀i cs,σ.bx i=some cs->σ'.bx i=some cs)(u:σ'.ar=σ.ar)(h:Eff T P hv n ops o σ v ms):Eff T P hv n ops o σ' v ms:=by
 have l:∀z∈o.op.operands,σ'.ev z=σ.ev z:=by
  intro z hz;exact Oq
 have key:∀d,bW T P (.drawn hv) σ d o.op (Is v ms)->bW T P (.drawn hv) σ' d o.op (Is v ms):=by
  intro d h;unfold blOf at m;split at m
  ·rename_i A q B
   unfold aG7 at q;split at q
   ·rename_i j as C hop
    rw[hop]at h⊢;have e:mapR σ'.ev as.toList=mapR σ.ev as.toList:=yL λx s=>l x (by rw[hop];cases j<;>simp[Op.operands,Call.operands] <;>first|exact s|exact QZ.1 s|exact .inr (QZ.1 s)|skip);cases j with
    |func f=>
     have b:bJ (mapR σ.ev as.toList) (λxs=>kY T P (.drawn hv) σ d f xs (Is v ms)):=h;show bJ (mapR σ'.ev as.toList) (λxs=>kY T P (.drawn hv) σ' d f xs (Is v ms));rw[bC]at b⊢;rw[e];exact call_more k u b
    |tmp t=>
     have b:(match σ.env t with
      | .fn g a=>cond (isFnC a) (bJ (mapR σ.ev as.toList) λxs=>kY T P (.drawn hv) σ d g (argsV a xs) (Is v ms)) False
      |_=>False):=h
     have r:σ'.env t=σ.env t:=l (.tmp t) Fj
     show(match σ'.env t with
      | .fn g a=>cond (isFnC a) (bJ (mapR σ'.ev as.toList) λxs=>kY T P (.drawn hv) σ' d g (argsV a xs) (Is v ms)) False
      |_=>False)
     rw[r];split at b;obtain⟨y,b⟩:=aT b;rw[y];rw[bC]at b;show cond true _ False;rw[Qo,bC,e];exact call_more k u b;exact b.elim
    |const c=>exact(h:False).elim
    |global g=>exact(h:False).elim
   cases q
  cases m
 grind [uN,Eff,Oper.looksAt,tV]
def apps_bx_stay(i:Nat):∀(ms:List Mod) (σ:St),(∃cs,σ.bx i=some cs)->∃cs,(σ.apps ms).bx i=some cs
 | [],_,h=>h
 |m::ms,σ,⟨cs,h⟩=>by
  have e:σ.apps (m::ms)=(m.app σ).apps ms:=rfl;rw[e];refine apps_bx_stay i ms _ ?_;cases m with
  |a k en=>exact⟨cs,h⟩
  |b j c=>
   by_cases f:i=j;subst f;exact⟨c,upd_same _ _ _⟩;exact⟨cs,by show upd σ.bx j _ i=_;rw[upd_ne _ _ f];exact h⟩
def apps_bx_put(i:Nat):∀(ms:List Mod) (σ:St),(∃m∈ms,m.isB i)->∃cs,(σ.apps ms).bx i=some cs
 | [],_,⟨_,h,_⟩=>Ag
 |m::ms,σ,⟨x,f,hi⟩=>by
  have e:σ.apps (m::ms)=(m.app σ).apps ms:=rfl;rw[e];rcases P5.1 f with rfl|f;refine apps_bx_stay i ms _ ?_;cases x with
  |a k en=>exact hi.elim
  |b j c=>cases hi;exact⟨c,upd_same _ _ _⟩
  exact apps_bx_put i ms _ ⟨x,f,hi⟩
def swap_hn(y:Oper.apart ops.toArray p o=true){A:List Nat}(J:blOf hv p=some A)(z:isNew o=true)
 (F:Eff T P hv n ops p σ v ms)(G:Eff T P hv n ops o (σ.put p.dst v ms) v' ms'):
 Eff T P hv n ops o σ v' ms'/\Eff T P hv n ops p (σ.put o.dst v' ms') v ms/\(σ.put p.dst v ms).put o.dst v' ms'=(σ.put o.dst v' ms').put p.dst v ms:=by
 obtain⟨L,x,M⟩:=QI y
 obtain⟨t,q,l⟩:∃t,o.op= .alloc t/\o.guard=none:=by
  unfold isNew at z;split at z;rename_i t D E;exact⟨t,D,E⟩;cases z
 have f:=G;unfold Eff at f;rw[l,q]at f;obtain⟨s,H⟩:=f;have r:opVC T (σ.put p.dst v ms) (o.dst.getD n) (.alloc t) (Is v' ms'):=H;unfold opVC at r;simp only at r;obtain⟨B,h⟩:=aT r;unfold lM at h;split at h
 ·rename_i a
  rw[lT]at a
  have k:σ.bx (o.dst.getD n)=none:=by
   cases e:σ.bx (o.dst.getD n)with
   |none=>rfl
   |some cs=>
    obtain⟨c,j⟩:=apps_bx_stay (o.dst.getD n) ms σ ⟨cs,e⟩;rw[a]at j;cases j
  have w:∀m∈ms,¬m.isB (o.dst.getD n):=λm u hi=>by
   obtain⟨c,j⟩:=apps_bx_put (o.dst.getD n) ms σ ⟨m,u,hi⟩;rw[a]at j;cases j
  rw[bC]at h;obtain⟨C,I⟩:=aT h;obtain⟨rfl,rfl⟩:=I;refine⟨?_,?_,?_⟩
  ·unfold Eff
   rw[l,q];refine⟨s,?_⟩;show opVC T σ (o.dst.getD n) (.alloc t) _;unfold opVC;simp only;rw[B];simp only[Qo];unfold lM;rw[k];simp only;rw[bC,C];exact⟨rfl,rfl⟩
  ·refine eff_more J ?_ ?_ ?_ F
   ·grind [bU]
   ·intro i cs hi
    rw[lT];show upd σ.bx (o.dst.getD n) _ i=_;rw[upd_ne _ _ (λe=>by rw[e,k]at hi;cases hi)];exact hi
   ·rw[nX];rfl
  ·refine put_comm x ?_ ?_
   ·rintro i ⟨m,u,hi⟩ N g b
    rw[Py.1 g]at b;have:i=o.dst.getD n:=by cases b;rfl
    subst this;exact w m u hi
   ·rintro i _ N g b
    rw[Py.1 g]at b;exact b
 ·exact h.elim
def eR7(wf:∀x:Operand,(σ.ev x).ok σ.hasB σ.hasA)(e:Oper.apart ops.toArray p o=true)(f:aI7 p.op=true)
 (g:Eff T P hv n ops p σ v ms)(h2:Eff T P hv n ops o (σ.put p.dst v ms) v' ms'):
 Eff T P hv n ops o σ v' ms'/\Eff T P hv n ops p (σ.put o.dst v' ms') v ms/\(σ.put p.dst v ms).put o.dst v' ms'=(σ.put o.dst v' ms').put p.dst v ms:=by
 obtain⟨hp1,l,q⟩:=QI e;have c:=bE8 f g;subst c;obtain⟨_,k,i⟩:=wG (T:=T) (P:=P) (hv:=hv) f;have b1:(σ.put p.dst v []).bx=σ.bx:=Ee;have a1:(σ.put p.dst v []).ar=σ.ar:=Ef;have r:Eff T P hv n ops o σ v' ms':=IJ;grind [mW,bU,put_comm]
def eO9(wf:∀x:Operand,(σ.ev x).ok σ.hasB σ.hasA)(e:Oper.apart ops.toArray p o=true)(f:aI7 o.op=true)
 (h1:Eff T P hv n ops p σ v ms)(g:Eff T P hv n ops o (σ.put p.dst v ms) v' ms'):
 Eff T P hv n ops o σ v' ms'/\Eff T P hv n ops p (σ.put o.dst v' ms') v ms/\(σ.put p.dst v ms).put o.dst v' ms'=(σ.put o.dst v' ms').put p.dst v ms:=by
 obtain⟨l,q,r⟩:=QI e;have c:=bE8 f g;subst c;obtain⟨_,k,i⟩:=wG (T:=T) (P:=P) (hv:=hv) f;have b1:(σ.put o.dst v' []).bx=σ.bx:=Ee;have a1:(σ.put o.dst v' []).ar=σ.ar:=Ef;refine⟨?_,?_,?_⟩
 ·grind [mW,bU]
 ·exact Ir
 ·grind [put_comm]
end
end Go.Ab
