/- Lemmas. -/
import Derived.Test.YtecbpikbjfihmaaGreatDoorA3
import Derived.RangeFuncIn
set_option linter.all false
set_option autoImplicit true
set_option relaxedAutoImplicit true
noncomputable section
namespace Go.Ab
section
variable{T:Tab}{P:Program}{σ σ':St}{d:Nat}{v:V}{ms:List Mod}
def yL{l}(h:∀x∈l,f x=g x):mapR f l=mapR g l:=by
 grind [dU,Ti]
def cL5(b:∀m∈ms,m.same σ σ')(h:oN T t σ d (Is v ms)):oN T t σ' d (Is v ms):=by
 unfold oN at*;split at h;rename_i a;let⟨c,_,h4⟩:=aT h;have:=b _ Bq;simp only[show σ'.ar d=none from this.trans a];exact h;exact h.elim
def cX0(a:x.agr σ σ')(h:rG T t σ x y (Is v ms)):rG T t σ' x y (Is v ms):=by
 unfold rG at*;split at h;simp_all [V.agr,V.ok];exact h;exact h.elim
def aH2(a:x.agr σ σ')(h:iE T t σ x y z (Is v ms)):iE T t σ' x y z (Is v ms):=by
 unfold iE at*;split at h;simp_all [V.agr,V.ok];exact h.elim
def cW0(he:∀x∈f.operands,σ'.ev x=σ.ev x)(ha:1<cls f->∀x∈f.operands,(σ.ev x).agr σ σ')(e:∀m∈ms,m.same σ σ')(h:opVC T σ d f (Is v ms)):opVC T σ' d f (Is v ms):=by
 unfold opVC at h;split at h<;>unfold opVC<;>simp only;rw[he _ Am];exact h;rw[he _ Am];exact h;rename_i c a b;rw[he c Am,he a Am,he b Am];exact h;rw[he _ Am];exact h;rename_i x y _;rw[he x Am,he y Am];exact h;rw[he _ Am];exact bJ6 e h;let⟨h1,h2⟩:=aT h;rw[h1];exact bJ6 e h2;rw[he _ Am];exact h;rw[he _ Am];exact h;rename_i x;let⟨h1,h2⟩:=aT h;rw[h1,he x Am];exact dW7 (ha AO x Am) h2;rename_i x y;let⟨h1,h2⟩:=aT h;rw[h1,he x Am,he y Am];exact dJ9 (ha AO x Am) h2;rename_i x y;let⟨h1,h2⟩:=aT h;rw[h1,he x Am,he y Am];exact bO4 (ha AO x Am) h2;rename_i x y;rw[he x Am,he y Am];exact h;rw[he _ Am];exact h;exact h;rename_i x xs
 have i:mapR σ'.ev (x::xs)=mapR σ.ev (x::xs):=by
  rw[dU,dU];refine Ti λy k=>he y ?_;simp[Op.operands]at k⊢;exact k
 rw[i];exact h;rename_i q;let⟨h1,h2⟩:=aT h;rw[h1];refine dM6 (λp hp=>he p.2 ?_) h2;exact Qh;rename_i q;let⟨h1,h2⟩:=aT h;rw[h1];refine bB6 (λp hp=>he p.2 ?_) e h2;exact Qh;rename_i x y;let⟨h1,h2⟩:=aT h;rw[h1,he x Am,he y Am];exact bN2 e h2;rename_i x lo hi j;let⟨h1,h2⟩:=aT h
 have o:lo.map σ'.ev=lo.map σ.ev:=by
  cases lo with
  |none=>rfl
  |some y=>simp[he y Am]
 have n:hi.map σ'.ev=hi.map σ.ev:=by
  cases hi with
  |none=>rfl
  |some y=>simp[he y Am]
 have hx:j.map σ'.ev=j.map σ.ev:=by
  cases j with
  |none=>rfl
  |some y=>simp[he y Am]
 rw[h1,he x Am,o,n,hx];exact dK8 (ha AO x Am) h2;rename_i x;rw[he x Am];unfold aF1 at h⊢;split at h;unfold convB at h⊢;split at h;rename_i l hx;let⟨h1,h2⟩:=aT h;let⟨_,_,h4⟩:=dX h2;have:=e _ Bq;simp only[show σ'.ar d=none from this.trans l,hx];exact h;exact h.elim;let⟨h1,h2⟩:=aT h;rw[h1];exact bS6 (ha AO x Am) h2;exact h;rename_i x t;let⟨h1,h2⟩:=aT h;rw[h1,he x Be];split at h2;exact eN2 (ha AO x Be) h2;exact h2;exact h2.elim;rename_i s x t r;let⟨h1,h2⟩:=aT h;rw[h1,he x Be,he s Be];exact cY6 (ha AO s Be) (ha AO x Be) e h2;rw[yL (g:=σ.ev) λx hx=>he x Dl];exact h;rw[yL (g:=σ.ev) λx hx=>he x Dl];exact h;let⟨h1,h2⟩:=aT h;rw[h1];exact cL5 e h2;rename_i t x y;let⟨h1,h2⟩:=aT h;rw[h1,he x Am,he y Am];exact cX0 (ha AO x Am) h2;exact Lm;exact Lm;rw[he _ Am];exact h;exact h.elim
def Mo(R:List Mod->Prop)(Φ:VK->Prop):Prop:=∀K,Φ K->∃v ms,K v ms/\R ms
variable{R:List Mod->Prop}
def Mo.ret v(h:R ms):Mo R (λK=>K v ms):=λ_ a=>⟨v,ms,a,h⟩
def Mo.false:Mo R (λ_=>False):=λ_ h=>h.elim
def Mo.need(h:p->Mo R Φ):Mo R (λK=>need p (Φ K)):=λK a=>h (dX a).1 K (dX a).2
def Mo.arith{Φ:Int->VK->Prop}(h:∀m,Mo R (Φ m)):Mo R (λK=>arith k n λm=>Φ m K):=λK a=>h _ K (wI a)
def Mo.idx{Φ:V->VK->Prop}(h:∀x,Mo R (Φ x)):Mo R (λK=>idx l i λx=>Φ x K):=λK a=>by
 let⟨x,b,a⟩:=cO3 a;exact h x K a
def Mo.bytes{Φ:List Int->VK->Prop}(h:∀ns,Mo R (Φ ns)):Mo R (λK=>aZ0 xs λns=>Φ ns K):=λK a=>by
 let⟨ns,b,a⟩:=cC4 a;exact h ns K a
def Mo.force{Φ:V->VK->Prop}(h:∀x,Mo R (Φ x)):Mo R (λK=>force x λy=>Φ y K):=λK b=>by
 have a:Ab.force x (λy=>Φ y K):=b;rw[force_eq]at a;exact h x K a
def Mo.bJ{Φ:List V->VK->Prop}(h:∀l,Mo R (Φ l)):Mo R (λK=>bJ l λy=>Φ y K):=λK b=>by
 have a:Ab.bJ l (λy=>Φ y K):=b;rw[bC]at a;exact h l K a
theorem Mo.cond(h:Mo R Φ)(c:Mo R a):Mo R (λK=>cond b (Φ K) (a K)):=by
 cases b;exact c;exact h
theorem Mo.branch(h:Mo R Φ)(c:Mo R a):Mo R (λK=>branch b (Φ K) (a K)):=by
 cases b;exact c;exact h
theorem Mo.lF{Φ:List V->VK->Prop}(h:∀l,Mo R (Φ l)):Mo R (λK=>lF σ x λl=>Φ l K):=λK a=>by
 let⟨l,b⟩:=eQ1 (K:=λl=>Φ l K) a;exact h l K b
theorem Mo.contsK{Φ:List V->VK->Prop}(h:∀l,Mo R (Φ l)):Mo R (λK=>contsK k σ x λl=>Φ l K):=λK a=>by
 let⟨l,b⟩:=contsK_p (K:=λl=>Φ l K) a;exact h l K b
theorem Mo.lV{Φ:List V->VK->Prop}(h:∀l,Mo R (Φ l)):Mo R (λK=>lV σ x λl=>Φ l K):=λK a=>by
 let⟨l,b⟩:=eK7 (K:=λl=>Φ l K) a;exact h l K b
theorem Mo.bound{Φ:Int->VK->Prop}(h:∀n,Mo R (Φ n)):Mo R (λK=>bound o a λn=>Φ n K):=λK b=>by
 unfold Ab.bound at b;split at b;exact h _ K b;exact h _ K b;exact b.elim
def rM(a:R []) r cs:Mo R (wB r cs):=by
 unfold wB;cases r.agg with
 |true=>exact Mo.bJ λl=>Mo.cond (Mo.ret _ a) Mo.false
 |false=>
  cases cs with
  |nil=>exact Mo.false
  |cons x r=>exact Mo.force λv=>Mo.ret _ a
def Mo.oI{Φ:List V->VK->Prop}(h:∀l,Mo R (Φ l)):Mo R (λK=>oI a σ e cs λl=>Φ l K):=λK b=>by
 let⟨l,c⟩:=aU7 (K:=λl=>Φ l K) b;exact h l K c
def bS7(c:∀cs,σ.bx d=none->R [.b d cs]) cs:Mo R (lM σ d cs):=by
 unfold lM;split;rename_i a;exact Mo.bJ λl=>Mo.cond (Mo.ret _ (c l a)) Mo.false;exact Mo.false
def Fr1(σ:St)(op:Op)(m:Mod):Prop:=m.fresh σ\/(4<=cls op/\∀p q,(∀x∈op.operands,(σ.ev x).ok p q)->m.key p q)
def bY1 T σ d o:Mo (λms=>∀m∈ms,Fr1 σ o m) (opVC T σ d o):=by
 have hn:∀m∈([] :List Mod),Fr1 σ o m:=λm hm=>Ii;have h1:∀e:Mod,Fr1 σ o e->∀m∈[e],Fr1 σ o m:=λe hm m h=>by cases Ri.1 h;exact hm
 unfold opVC;split;exact Mo.force λv=>Mo.ret _ hn;exact Mo.force λv=>Mo.ret _ hn;unfold bA8;split;exact Mo.branch (Mo.force λv=>Mo.ret _ hn) (Mo.force λv=>Mo.ret _ hn);exact Mo.false;unfold unVC;split;exact Mo.ret _ hn;exact Mo.arith λm=>Mo.ret _ hn;exact Mo.false
 ·unfold bD7
  split
  ·refine Mo.cond ?_ ?_
   ·unfold cM6
    split<;>first|exact Mo.arith λm=>Mo.ret _ hn|exact Mo.need (λhp=>Mo.arith λm=>Mo.ret _ hn)|exact Mo.need (λhp=>Mo.ret _ hn)|exact Mo.ret _ hn|exact Mo.false
   unfold shVC;split<;>first|exact Mo.need (λhp=>Mo.arith λm=>Mo.ret _ hn)|exact Mo.need (λhp=>Mo.ret _ hn)|exact Mo.false
  ·unfold cH0
   split<;>first|exact Mo.need (λhp=>Mo.ret _ hn)|exact Mo.ret _ hn|exact Mo.false
  ·refine Mo.cond ?_ Mo.false
   unfold bG1;split<;>first|exact Mo.ret _ hn|exact Mo.false
  refine Mo.cond ?_ Mo.false;unfold aL1;split;exact MK;exact MK;exact Mo.false
  ·refine Mo.cond ?_ Mo.false
   unfold ptrVC;split<;>first|exact Mo.ret _ hn|exact Mo.false
  exact Mo.false
 exact bS7 (σ:=σ) (d:=d) (λcs c=>h1 (.b d cs) (.inl c)) _;exact Mo.cond (bS7 (σ:=σ) (d:=d) (λcs c=>h1 (.b d cs) (.inl c)) _) Mo.false;refine Mo.cond ?_ Mo.false;unfold jB;split;refine Mo.cond Mo.false ?_;split;exact Mo.ret _ hn;exact Mo.bJ λl=>Mo.ret _ hn;exact Mo.ret _ hn;exact Mo.false;exact Mo.false;refine Mo.cond ?_ Mo.false;unfold aM2;split;exact Mo.cond (rM hn _ _) Mo.false;exact Mo.false;refine Mo.cond ?_ Mo.false;unfold pW;split;split;exact rM hn _ _;exact Mo.false;exact rM hn _ _;split;exact Mo.need (λhp=>Mo.idx λx=>Mo.cond (rM hn _ _) Mo.false);exact Mo.false;exact Mo.false;refine Mo.cond ?_ Mo.false;unfold qU;rename_i x0 y0;split;rename_i i off hx;split;refine Mo.cond (Mo.bJ λl=>Mo.ret _ (h1 (.b i l) (.inr ⟨AO,λp q hok=>?_⟩))) Mo.false;have:=hok x0 Am;rw[hx]at this;simp[V.ok]at this;exact this;exact Mo.false;rename_i k g sz i off hx;split;refine Mo.need (λhp=>Mo.idx λx=>Mo.cond (Mo.bJ λl=>Mo.ret _ (h1 (.a k _) (.inr ⟨AO,λp q hok=>?_⟩))) Mo.false);have:=hok x0 Am;exact QL;exact Mo.false;exact Mo.false;refine Mo.cond ?_ Mo.false;unfold gI;split;split;exact LX;exact LX;split;exact Mo.need (λhp=>Mo.cond (Mo.ret _ hn) Mo.false);exact Mo.false;exact Mo.false;split;exact Mo.cond (Mo.ret _ hn) Mo.false;exact Mo.cond (Mo.bJ λl=>Mo.ret _ hn) Mo.false;exact Mo.false;exact Mo.false;refine Mo.cond ?_ Mo.false;unfold aM6;split;exact Mo.need (λhp=>Mo.ret _ hn);exact Mo.cond (rM hn _ _) Mo.false;exact Mo.false;unfold wZ;split;split;exact Mo.force λv=>Mo.ret _ hn;exact Mo.false;exact Mo.false;exact Mo.ret _ hn;exact Mo.bJ λxs=>Mo.ret _ hn;refine Mo.cond ?_ Mo.false;unfold vO;split;exact Mo.oI (Φ:=λcs K=>K (.agg cs) []) λl=>Mo.ret _ hn;exact Mo.cond (Mo.oI (Φ:=λcs K=>K (.agg cs) []) λl=>Mo.ret _ hn) Mo.false;exact Mo.false;refine Mo.cond ?_ Mo.false;unfold iZ;split;rename_i hd;refine Mo.cond ?_ Mo.false;exact Mo.oI (Φ:=λcs K=>cond (allR V.atom cs) (K _ _) False) λl=>Mo.cond (Mo.ret _ (h1 (.a d _) (.inl hd))) Mo.false;exact Mo.false;refine Mo.cond ?_ Mo.false;unfold jY;split;rename_i hd _ _;exact Mo.need (λhp=>Mo.cond (Mo.ret _ (h1 (.a d _) (.inl hd))) Mo.false);exact Mo.false;refine Mo.cond ?_ Mo.false;unfold sZ;split;split;exact Mo.bound (Φ:=λl K=>bound _ _ λh=>need _ (K _ _)) λl=>Mo.bound (Φ:=λh K=>need _ (K _ _)) λh=>Mo.need (λhp=>Mo.ret _ hn);exact Mo.false;refine Mo.cond ?_ Mo.false;refine Mo.lV λxs=>Mo.bound λl=>Mo.bound λh=>?_;split;exact Mo.need (λhp=>Mo.ret _ hn);split;exact Mo.false;exact Mo.bound λm=>Mo.need (λhp=>Mo.ret _ hn);exact Mo.false;unfold aF1;split;unfold convB;split;rename_i hd _;exact Mo.cond (Mo.need λhp=>Mo.ret _ (h1 (.a d _) (.inl hd))) Mo.false;exact Mo.false;exact Mo.cond (Mo.lF λxs=>Mo.bytes λns=>Mo.ret _ hn) Mo.false;unfold bE4;split;exact Mo.arith λm=>Mo.ret _ hn;exact Mo.ret _ hn;exact Mo.false
 ·refine Mo.cond ?_ Mo.false
  split
  ·unfold aE9
   split<;>first|exact Mo.ret _ hn|exact Mo.false|(split<;>first|exact Mo.need (λhp=>Mo.ret _ hn)|exact Mo.false)
  ·unfold aI4
   split<;>first|exact Mo.ret _ hn|exact Mo.false
  exact Mo.false
 refine Mo.cond ?_ Mo.false;unfold kT;rename_i f x0 t0 j;split;refine Mo.cond ?_ Mo.false;refine Mo.contsK λxs=>?_;split;exact L8;exact L8;rename_i k g hx;split;refine Mo.need λhp=>Mo.ret _ (h1 (.a k _) (.inr ⟨AO,λp q hok=>?_⟩));have:=hok f Be;exact QL;exact Mo.false;exact Mo.false;exact Mo.false
 ·unfold rP
  split<;>first|exact Mo.ret _ hn|exact Mo.false
 ·unfold rP
  split<;>first|exact Mo.ret _ hn|exact Mo.false
 refine Mo.cond ?_ Mo.false;unfold oN;split;rename_i hd;exact Mo.cond (Mo.ret _ (h1 (.a d _) (.inl hd))) Mo.false;exact Mo.false;refine Mo.cond ?_ Mo.false;unfold rG;split;split;split;refine Mo.need λhp=>Mo.cond ?_ Mo.false;exact Q5;exact Mo.false;exact Mo.false;split;refine Mo.cond ?_ Mo.false;exact Q5;exact Mo.false;exact Mo.false;exact Jq;exact Jq;exact Mo.cond (Mo.force λv=>Mo.ret _ hn) Mo.false;exact Mo.false
theorem bQ1:∀ {j} {K},uF σ d rs j none K->∃vs ms,K vs ms/\(∀m∈ms,m.fresh σ)/\∀σ',(∀m∈ms,m.same σ σ')->∀K',K' vs ms->uF σ' d rs j none K':=by
 induction rs with
 |nil=>intro j K h;exact⟨[],[],h,Ad,λσ' _ K' h=>h⟩
 |cons y r ih=>
  intro j K h;rw[qL]at h;split at h;exact Js;exact Js;grind [force_eq,qL]
def bO7(h:zZ σ d none r K):∃v ms,K v ms/\(∀m∈ms,m.fresh σ)/\∀σ',(∀m∈ms,m.same σ σ')->∀a,a v ms->zZ σ' d none r a:=by
 unfold zZ at h;split at h<;>grind [bQ1,zZ]
def cI2(a:x.agr σ σ')(h:yH σ.ar x y):yH σ'.ar x y:=by
 unfold yH at*;cases y<;>simp only at h⊢
 case sl l=>
  exact OJ
 all_goals exact h
def dS6:∀ {xs},V.okL (λi=>σ'.bx i=σ.bx i) (λk _=>σ'.ar k=σ.ar k) xs->cN9 σ.ar ys xs->cN9 σ'.ar ys xs:=by
 induction ys with
 |nil=>intro xs _ h;exact h
 |cons y r b=>
  intro xs a h;cases xs with
  |nil=>exact h
  |cons x xr=>
   exact⟨cI2 a.1 h.1,b a.2 h.2⟩
def eH3(a:x.agr σ σ')(h:wU T σ.ar x y):wU T σ'.ar x y:=by
 unfold wU at*;cases y<;>simp only at h⊢
 case own e l=>
  exact OJ
 case ap e l=>
  exact OJ
 case agg ys=>
  cases x<;>simp only at h⊢
  case agg xs=>
   exact dS6 a h
 all_goals exact cI2 a h
theorem dL6:∀ {xs},(∀x∈xs,x.agr σ σ')->iQ T σ.ar ys xs->iQ T σ'.ar ys xs:=by
 induction ys with
 |nil=>intro xs _ h;exact h
 |cons y r b=>
  intro xs a h;cases xs with
  |nil=>exact h
  |cons x xr=>exact⟨eH3 (a x Ad) h.1,b (λz hz=>a z IA) h.2⟩
def yX(j:hvOf hv d=none)(h:kY T P (.drawn hv) σ d f xs K):∃v ms,K v ms/\(∀m∈ms,m.fresh σ)/\∀σ',(∀x∈xs,x.agr σ σ')->(∀m∈ms,m.same σ σ')->∀b,b v ms->kY T P (.drawn hv) σ' d f xs b:=by
 rcases h.out with⟨ys,r,lend,s,i,t,e⟩|⟨a,_⟩|⟨_,_,_,_,_,a,_⟩;case inr.inl=>cases a
 case inr.inr=>
  unfold Md.may at a;simp only[j]at a;cases a
 have hc:=i;simp only[sO,Md.light,Ru,TD,Uz]at hc
 have g:bD ys xs=[] :=by
  grind [TJ,iL,RS]
 have k:∀σ:St,cond lend [] (aV σ (bK ys xs))=[] :=λσ=>KW
 have l:∀(σ:St) (ms:List Mod),appR (cond lend [] (aV σ (bK ys xs))) (appR (aX σ (bD ys xs)) ms)=ms:=λσ ms=>by
  rw[k,g];rfl
 have c:∀σ:St,reuse σ (bD ys xs)=none:=λσ=>by rw[g];rfl
 simp[l,c]at e;let⟨v,ms,o,q,y⟩:=bO7 e;refine⟨v,ms,o,q,λσ' w u b n=>?_⟩;refine⟨.inl ?_⟩;grind [dL6]
def cJ1(c:σ'.bx=σ.bx)(b:σ'.ar=σ.ar)(h:kY T P m σ d f xs K):kY T P m σ' d f xs K:=by
 let⟨a,g,e⟩:=σ';subst c b;exact⟨h.out⟩
def hvy(hv:List (Nat×List Nat))(d:Nat)(op:Op):Bool:=aG7 op&&isS (hvOf hv d)
def aN7(h:hvy hv d a=false)(b:aG7 a=true):hvOf hv d=none:=by
 unfold hvy at h;unfold isS at h;grind
theorem aO9(r:hvy hv d k=true->σ'.bx=σ.bx/\σ'.ar=σ.ar)(j:∀x∈k.operands,σ'.ev x=σ.ev x)(i:1<cls k->∀x∈k.operands,(σ.ev x).agr σ σ')(l:∀m∈ms,m.same σ σ')(h:bW T P (.drawn hv) σ d k (Is v ms)):bW T P (.drawn hv) σ' d k (Is v ms):=by
 unfold bW at h;split at h<;>unfold bW
 ·rename_i f as G
  have e:mapR σ'.ev as=mapR σ.ev as:=yL λx hx=>j x Dl;rw[bC]at h;simp only;rw[bC,e];cases a:hvy hv d (.call ⟨.value (.func f),⟨as⟩,G⟩)with
  |true=>exact cJ1 (r a).1 (r a).2 h
  |false=>
  obtain⟨v',E,⟨rfl,rfl⟩,J,F⟩:=yX (aN7 a rfl) h;refine F σ' ?_ l _ ⟨rfl,rfl⟩;intro x hx;rw[dU]at hx;obtain⟨y,hy,rfl⟩:=Rn.1 hx;exact i AO y Hz
 ·rename_i t as G
  have e:mapR σ'.ev as=mapR σ.ev as:=yL λx hx=>j x Dl;have A:σ'.env t=σ.env t:=j (.tmp t) Be;simp only;rw[A];split at h
  ·rename_i g H C
   let⟨B,h⟩:=aT h;rw[B];rw[bC]at h;rw[bC,e];cases a:hvy hv d (.call ⟨.value (.tmp t),⟨as⟩,G⟩)with
   |true=>exact cJ1 (r a).1 (r a).2 h
   |false=>
   obtain⟨v',E,⟨rfl,rfl⟩,J,F⟩:=yX (aN7 a rfl) h;refine F σ' ?_ l _ ⟨rfl,rfl⟩;intro x hx;rw[dU]at hx;rcases(argsV_mem hx).symm with hx|hx;obtain⟨y,hy,rfl⟩:=Rn.1 hx;exact i AO y Hz;have z:=i AO (.tmp t) Be;have b:(σ.env t).agr σ σ':=z;rw[C]at b;exact aH.1 b x hx
  exact h.elim
 rename_i t x lo hi I;have u:=KX;have w:=cW0 j i l u;exact w;rename_i s t x c K;have u:=KX;have w:=cW0 j i l u;exact w;rename_i D n o q;split;exact(D _ _ _ rfl).elim;exact(n _ _ _ rfl).elim;exact(o _ _ _ _ _ rfl).elim;exact(q _ _ _ _ _ rfl).elim;exact cW0 j i l h
def bQ4(hh:hvy hv d b=false)(h:bW T P (.drawn hv) σ d b (Is v ms)):∀m∈ms,Fr1 σ b m:=by
 unfold bW at h;split at h;rw[bC]at h;exact PK;split at h;let⟨_,h⟩:=aT h;rw[bC]at h;exact PK;exact h.elim;rename_i t x lo hi e;have h1:=KX;exact Qx;rename_i a t x c f;have h1:=KX;exact Qx;obtain⟨v',ms',⟨rfl,rfl⟩,q⟩:=bY1 T σ d _ _ h;exact q
end
def Eff(T:Tab)(P:Program)(hv:List (Nat×List Nat))(n:Nat)(ops:List Oper)(o:Oper)(σ:St)(v:V)(ms:List Mod):Prop:=
 (∀d,o.dst=some d->d<n)/\match o.guard with
 |none=>bW T P (.drawn hv) σ (o.dst.getD n) o.op (Is v ms)
 |some (j,want)=>∃s,tV ops j=some s/\
  ((σ.env s= .lit (.bool want)/\bW T P (.drawn hv) σ (o.dst.getD n) o.op (Is v ms))\/((σ.env s= .lit (.bool !want)\/∃cs,σ.env s= .tup cs)/\v= .tup []/\ms=[]))
section
variable{T:Tab}{P:Program}{σ σ':St}{n d:Nat}{v:V}{ms:List Mod}{ops:List Oper}{o p:Oper}{K:St->Prop}{hv:List (Nat×List Nat)}
def eI5(h:Step T P (.drawn hv) n ops o σ K):∃v ms,Eff T P hv n ops o σ v ms/\K (σ.put o.dst v ms):=by
 unfold Step at h;unfold Eff;split at h
 ·rename_i l
  try simp[l]
  rcases h with⟨a,c⟩|⟨k,_⟩|⟨k,_⟩;case inr.inl=>cases k
  case inr.inr=>cases k
  let⟨v,ms,m,q⟩:=cH1 _ _ _ _ _ _ _ c;exact⟨v,ms,⟨a,q _ ⟨rfl,rfl⟩⟩,m⟩
 rename_i j g l;try simp[l]
 obtain⟨s,a,c,r⟩:=h;rcases r with⟨b,i,e⟩|⟨cs,i,e⟩;split at e;rename_i f;subst f;let⟨v,ms,m,q⟩:=cH1 _ _ _ _ _ _ _ e;exact⟨v,ms,⟨c,s,a, .inl ⟨i,q _ ⟨rfl,rfl⟩⟩⟩,m⟩;rename_i f;refine⟨_,_,⟨c,s,a, .inr ⟨.inl ?_,rfl,rfl⟩⟩,e⟩;cases b<;>cases g<;>simp_all
 exact⟨_,_,⟨c,s,a, .inr ⟨.inr ⟨cs,i⟩,rfl,rfl⟩⟩,e⟩
def eE8(h:Eff T P hv n ops o σ v ms)(l:K (σ.put o.dst v ms)):Step T P (.drawn hv) n ops o σ K:=by
 unfold Step;let⟨k,f⟩:=h;split at f
 ·rename_i g
  try simp only[g]
  exact .inl ⟨k,aR8 (λv' i ⟨c,e⟩=>by rw[c,e];exact l) f⟩
 rename_i j a g;try simp only[g]
 let⟨s,m,b⟩:=f;refine⟨s,m,k,?_⟩;rcases b with⟨b,q⟩|⟨b,rfl,rfl⟩;refine .inl ⟨a,b,?_⟩;rw[QU rfl];exact aR8 (λv' i ⟨c,e⟩=>by rw[c,e];exact l) q;grind
def aP3(h:hvO hv o=false):hvy hv (o.dst.getD n) o.op=false:=by
 unfold hvO at h;unfold hvy;cases b:aG7 o.op with
 |false=>rfl
 |true=>
  rw[b,Bool.true_and]at h;cases a:o.dst with
  |some d=>rw[a]at h;simpa using h
  |none=>
   rw[a]at h;cases hv with
   |nil=>rfl
   |cons p r=>simp at h
def cO7(c:hvO hv o=false)(h:Eff T P hv n ops o σ v ms):∀m∈ms,Fr1 σ o.op m:=by
 let⟨g,a⟩:=h;split at a;exact bQ4 (aP3 c) a;let⟨s,i,b⟩:=a;rcases b with⟨b,f⟩|⟨b,rfl,rfl⟩;exact bQ4 (aP3 c) f;intro m e;cases e
theorem mW(c:hvO hv o=true->σ'.bx=σ.bx/\σ'.ar=σ.ar)(he:∀t∈o.looksAt ops.toArray,σ'.env t=σ.env t)(j:1<cls o.op->∀x∈o.op.operands,(σ.ev x).agr σ σ')(k:∀m∈ms,m.same σ σ')(h:Eff T P hv n ops o σ v ms):Eff T P hv n ops o σ' v ms:=by
 have b:∀x∈o.op.operands,σ'.ev x=σ.ev x:=by
  intro x hx;exact Ql
 have e:hvy hv (o.dst.getD n) o.op=true->σ'.bx=σ.bx/\σ'.ar=σ.ar:=λa=>c (by
  cases i:hvO hv o with
  |true=>rfl
  |false=>rw[aP3 (n:=n) i]at a;cases a)
 unfold Eff at*;grind [aO9,uN,Oper.looksAt,tV]
theorem lT(σ:St) d v ms:(σ.put d v ms).bx=(σ.apps ms).bx:=by cases d<;>rfl
theorem nX(σ:St) d v ms:(σ.put d v ms).ar=(σ.apps ms).ar:=by cases d<;>rfl
theorem bU(σ:St) d v ms(h:d≠some t):(σ.put d v ms).env t=σ.env t:=by
 cases d with
 |none=>show(σ.apps ms).env t=_;rw[vM]
 |some d=>show upd (σ.apps ms).env d v t=_;rw[upd_ne _ _ (λe=>h Io),vM]
theorem pI(σ:St) d v ms:(σ.put (some d) v ms).env d=v:=upd_same _ _ _
theorem put_comm{d b}(u:∀t,d=some t->b≠some t)(s:∀i,(∃m∈ms,m.isB i)->∀m∈a,¬m.isB i)(r:∀i,(∃m∈ms,m.isA i)->∀m∈a,¬m.isA i):
 (σ.put d v ms).put b v' a=(σ.put b v' a).put d v ms:=by
 have k:((σ.put d v ms).put b v' a).env=((σ.put b v' a).put d v ms).env:=by
  funext t;by_cases e:d=some t;grind [bU,pI];rw[bU _ d _ _ e];by_cases c:b=some t;subst c;rw[pI,pI];grind [bU]
 have l:((σ.put d v ms).put b v' a).bx=((σ.put b v' a).put d v ms).bx:=by
  funext i;rw[lT,lT];by_cases e:∃m∈ms,m.isB i;grind [jJ,lT,aI2];have c:=λm g f=>e ⟨m,g,f⟩;rw[jJ ms i _ c,lT];exact aI2 a i _ _ (.inr (by rw[lT,jJ ms i _ c]))
 have q:((σ.put d v ms).put b v' a).ar=((σ.put b v' a).put d v ms).ar:=by
  funext i;rw[nX,nX];by_cases e:∃m∈ms,m.isA i;grind [lW,nX,aI9];have c:=λm g f=>e ⟨m,g,f⟩;rw[lW ms i _ c,nX];exact aI9 a i _ _ (.inr (by rw[nX,lW ms i _ c]))
 generalize (σ.put d v ms).put b v' a=h at*;generalize (σ.put b v' a).put d v ms=j at*;cases h;cases j<;>simp_all
end
section
variable{T:Tab}{P:Program}{σ σ':St}{n d:Nat}{v v':V}{ms ms':List Mod}{ops:List Oper}{o p:Oper}{K:St->Prop}{hv:List (Nat×List Nat)}
def bA1(h:clash a b=false)(c:4<=a)(e:1<b):False:=MC
def dE0(h:clash a b=false)(c:4<=b)(e:1<a):False:=MC
theorem swap(X:∀x:Operand,(σ.ev x).ok σ.hasB σ.hasA)(W:Oper.apart ops.toArray p o=true)(s:clash (clsH hv p) (clsH hv o)=false)
 (Y:Eff T P hv n ops p σ v ms)(Z:Eff T P hv n ops o (σ.put p.dst v ms) v' ms'):
 Eff T P hv n ops o σ v' ms'/\Eff T P hv n ops p (σ.put o.dst v' ms') v ms/\(σ.put p.dst v ms).put o.dst v' ms'=(σ.put o.dst v' ms').put p.dst v ms:=by
 let⟨U,aa,ab⟩:=Ul W
 have hnp:hvO hv p=false:=by
  cases hq:hvO hv p<;>simp_all [clsH,clash]
 have hno:hvO hv o=false:=by
  cases hq:hvO hv o<;>simp_all [clsH,clash]
 replace s:clash (cls p.op) (cls o.op)=false:=by
  unfold clsH at s;rw[hnp,hno]at s;exact s
 have R:=cO7 hnp Y;have S:=cO7 hno Z;generalize A:σ.put p.dst v ms=l at*
 have O:∀x∈o.op.operands,l.ev x=σ.ev x:=by
  intro x hx;cases x with
  |tmp t=>
   rw[<-A];refine bU _ _ _ _ (λe=>U t e ?_);exact Pg
  |const v=>rfl
  |global g=>rfl
  |func f=>rfl
 have C:∀m∈ms,m.fresh σ\/(4<=cls p.op/\m.key σ.hasB σ.hasA):=λm q=>by
  rcases R m q with h|⟨h,c⟩;exact .inl h;exact .inr ⟨h,c _ _ λx _=>X x⟩
 have B:∀m∈ms',m.fresh l\/(4<=cls o.op/\m.key σ.hasB σ.hasA):=λm q=>by
  rcases S m q with h|⟨h,c⟩;exact .inl h;simp_all
 have M:l.bx=(σ.apps ms).bx:=by rw[<-A,lT]
 have L:l.ar=(σ.apps ms).ar:=by rw[<-A,nX]
 have G:∀i,σ.hasB i->l.bx i≠none:=λi ⟨cs,hi⟩=>by rw[M];exact aN6 _ _ _ (.inr (by rw[hi];simp))
 have F:∀k g,σ.hasA k g->l.ar k≠none:=λi g ⟨cs,hi,_⟩=>by rw[L];exact aO2 _ _ _ (.inr (by rw[hi];simp))
 have E:∀i,(∃m∈ms,m.isB i)->∀m∈ms',¬m.isB i:=by
  rintro i ⟨m,q,r⟩ H w z;cases m with
  |a=>exact r
  |b j cs=>
  cases H with
  |a=>exact z
  |b j' N=>
  cases r;cases z;rcases B _ w with h|⟨h,Q⟩;exact absurd h (by show l.bx i≠none;rw[M];exact aN6 _ _ _ (.inl ⟨_,q,rfl⟩));rcases C _ q with c|⟨c,_⟩;let⟨x,hx⟩:=Q;have u:=c;rw[u]at hx;cases hx;exact bA1 s c Aa
 have D:∀i,(∃m∈ms,m.isA i)->∀m∈ms',¬m.isA i:=by
  rintro i ⟨m,q,r⟩ H w z;cases m with
  |b=>exact r
  |a j cs=>
  cases H with
  |b=>exact z
  |a j' N=>
  cases r;cases z;rcases B _ w with h|⟨h,Q⟩;exact absurd h (by show l.ar i≠none;rw[L];exact aO2 _ _ _ (.inl ⟨_,q,rfl⟩));rcases C _ q with c|⟨c,_⟩;let⟨g,x,hx,_⟩:=Q;have u:=c;rw[u]at hx;cases hx;exact bA1 s c Aa
 refine⟨?_,?_,?_⟩
 ·refine mW (σ:=l) (λhq=>Eu) ?_ ?_ ?_ Z
  ·grind [bU]
  ·intro I x hx
   rw[O x hx];refine V.ok.imp ?_ ?_ _ (X x)
   ·intro i hi
    rw[M];refine(jJ _ _ _ ?_).symm;intro m q r;cases m with
    |a=>exact r
    |b j cs=>
    cases r;rcases C _ q with c|⟨c,_⟩
    ·let⟨y,J⟩:=hi
     have u:=c;rw[u]at J;cases J
    ·exact bA1 s c I
   ·intro i g hi
    rw[L];refine(lW _ _ _ ?_).symm;intro m q r;cases m with
    |b=>exact r
    |a j cs=>
    cases r;rcases C _ q with c|⟨c,_⟩
    ·let⟨y,J,_⟩:=hi
     have u:=c;rw[u]at J;cases J
    ·exact bA1 s c I
  ·intro m q
   cases m with
   |b i cs=>
    show σ.bx i=l.bx i;rw[M];exact(jJ _ _ _ (λH w r=>E i ⟨H,w,r⟩ _ q rfl)).symm
   |a i cs=>
    show σ.ar i=l.ar i;rw[L];exact(lW _ _ _ (λH w r=>D i ⟨H,w,r⟩ _ q rfl)).symm
 ·refine mW (σ:=σ) (λhq=>Ew) ?_ ?_ ?_ Y
  ·grind [bU]
  ·intro I x hx
   refine V.ok.imp ?_ ?_ _ (X x)
   ·intro i hi
    rw[lT];refine jJ _ _ _ ?_;intro m q r;cases m with
    |a=>exact r
    |b j cs=>
    cases r;rcases B _ q with c|⟨c,_⟩
    ·exact G i hi c
    ·exact dE0 s c I
   ·intro i g hi
    rw[nX];refine lW _ _ _ ?_;intro m q r;cases m with
    |b=>exact r
    |a j cs=>
    cases r;rcases B _ q with c|⟨c,_⟩
    ·exact F i g hi c
    ·exact dE0 s c I
  ·intro m q
   cases m with
   |b i cs=>
    show(σ.put o.dst v' ms').bx i=σ.bx i;rw[lT];exact jJ _ _ _ (E i ⟨_,q,rfl⟩)
   |a i cs=>
    show(σ.put o.dst v' ms').ar i=σ.ar i;rw[nX];exact lW _ _ _ (D i ⟨_,q,rfl⟩)
 ·grind [put_comm]
end
def Good(cl:List (Nat×Nat))(σ:St):Prop:=∀u i,claim cl u=some i->(σ.env u).ok (λj=>j=i) (λ_ _=>i=77777)
def Good.ne(h:Good cl σ)(a:claim cl u=some i)(hi:Nat.beq i 77777=false):(σ.env u).ok (λj=>j=i) (λ_ _=>False):=
 V.ok.imp (λ_ h=>h) (λ_ _ h=>by subst h;cases hi) _ (h u i a)
section
variable{T:Tab}{P:Program}{σ σ':St}{n d:Nat}{v v':V}{ms ms':List Mod}{ops:List Oper}{o p:Oper}{K:St->Prop}{cl:List (Nat×Nat)}{hv:List (Nat×List Nat)}
def dC3{p}(j:∀s,(env s).ok p q)(h:cO4 cl env):Good cl ⟨env,bx,ar⟩:=by
 induction cl with
 |nil=>intro u i a;cases a
 |cons q r g=>
  intro u i a;have e:=h;unfold claim at a;rw[List.find?_cons]at a;cases b:Nat.beq q.1 u with
  |true=>
   rw[b]at a;have:=Td b;subst this;have f:=e.1;show(env q.1).ok _ _;unfold okB at f;grind [V.ok,V.okL]
  |false=>
   rw[b]at a;exact g e.2 u i a
def dQ7(b:x.ok (λj=>j=i) (λ_ _=>i=77777))(h:jB r x f (Is v ms)):v.ok (λj=>j=i) (λ_ _=>i=77777):=by
 unfold jB at h;split at h;rename_i o z q _ _;cases a:Nat.beq z 0 with
 |true=>rw[a]at h;exact h.elim
 |false=>
  rw[a]at h;split at h;let⟨rfl,_⟩:=h;simp_all [V.ok];rw[bC]at h;exact Q7;let⟨rfl,_⟩:=h;simp_all [V.ok];exact h.elim
 exact h.elim
def eC5 u p q:(dD8 u).ok p q:=by
 unfold dD8;split;rename_i cs;cases allR Value.oneCell' cs.toList with
 |false=>simp[Tt,V.ok]
 |true=>
  simp_all [TD,dU,aH,Rn,V.ok]
 simp[V.ok];simp[V.ok]
def aC5(a:Good cl σ)(h:zO cl x i=true):(σ.ev x).ok (λj=>j=i) (λ_ _=>i=77777):=by
 unfold zO at h;split at h;rename_i u;split at h;rename_i j b;have:=Td h;subst this;exact a u i b;cases h;exact eC5 _ _ _;cases h
def fZ4(a:Good cl σ)(hi:Nat.beq i 77777=false)(h:zO cl x i=true):(σ.ev x).ok (λj=>j=i) (λ_ _=>False):=
 V.ok.imp (λ_ h=>h) (λ_ _ h=>by subst h;cases hi) _ (aC5 a h)
def fY0{p}(hx:x.ok p q)(b:dG6 r.kd=true)(h:gI T r σ x y (Is v ms)):v.ok (λ_=>False) (λ_ _=>True):=by
 have el:∀{l}{z} {k:Nat},V.okL (λ_=>False) (λ_ _=>False) l->l[k]? =some z->V.okL (λ_=>False) (λ_ _=>False) z.cells:=by
  intro l z k hl hz;exact Pv
 unfold gI at h;split at h;split at h;exact KH;exact KH;split at h;let⟨_,h⟩:=aT (dX h).2;let⟨rfl,_⟩:=h;simp[V.ok];exact h.elim;exact h.elim;rename_i a;rw[a]at b;cases b;exact h.elim
def dQ8(hx:x.ok (λj=>j=i) (λ_ _=>i=77777))(h:gI T r σ x y (Is v ms)):v.ok (λj=>j=i) (λ_ _=>i=77777):=by
 have el:∀{l}{z} {k:Nat},V.okL (λ_=>False) (λ_ _=>False) l->l[k]? =some z->V.okL (λ_=>False) (λ_ _=>False) z.cells:=by
  intro l z k hl hz;exact Pv
 unfold gI at h;split at h;split at h;exact J8;exact J8;simp[V.ok]at hx;split at h;let⟨_,h⟩:=aT (dX h).2;let⟨rfl,_⟩:=h;exact hx;exact h.elim;exact h.elim;split at h;rename_i k off;cases hb:(Nat.blt _ r.alen&&Nat.blt r.elem (T.n r.elem))with
 |false=>rw[hb]at h;exact h.elim
 |true=>
  rw[hb]at h;let⟨rfl,_⟩:=h;simp_all [V.ok]
 cases hb:(Nat.blt _ r.alen&&Nat.blt r.elem (T.n r.elem))with
 |false=>rw[hb]at h;exact h.elim
 |true=>
  rw[hb]at h;rw[bC]at h;exact Q7
 exact h.elim;exact h.elim
def bC3(b:d=i)(h:lM σ d xs (Is v ms)):v.ok (λj=>j=i) (λ_ _=>False):=by
 unfold lM at h;split at h;rw[bC]at h;cases a:allR V.one xs with
 |false=>rw[a]at h;exact h.elim
 |true=>
  rw[a]at h;let⟨rfl,_⟩:=h;exact b
 exact h.elim
def cG5(B:∀x:Operand,(σ.ev x).ok σ.hasB σ.hasA)(hg:Good cl σ)(hc:aL7 T cl o=true)(h:Eff T P hv n ops o σ v ms):Good cl (σ.put o.dst v ms):=by
 intro u i l;by_cases e:o.dst=some u
 ·rw[e,pI]
  unfold aL7 at hc;rw[e]at hc;simp[l]at hc
  have key:bW T P (.drawn hv) σ (o.dst.getD n) o.op (Is v ms)->v.ok (λj=>j=i) (λ_ _=>i=77777):=by
   intro h;split at hc;rename_i s x f a;rw[a]at h;have h':opVC T σ (o.dst.getD n) (.fieldAddr s x f) (Is v ms):=h;unfold opVC at h';simp only at h';cases b:Nat.blt s (T.n s)with
   |false=>rw[b]at h';exact h'.elim
   |true=>
    rw[b]at h';exact dQ7 (aC5 hg hc) h'
   rename_i s x f a;rw[a]at h;have h':opVC T σ (o.dst.getD n) (.indexAddr s x f) (Is v ms):=h;unfold opVC at h';simp only at h';cases b:Nat.blt s (T.n s)with
   |false=>rw[b]at h';exact h'.elim
   |true=>
    rw[b]at h';rw[Uz]at hc;rcases hc with hc|hc;exact dQ8 (aC5 hg hc) h';rw[Ru]at hc;have k:=Td hc.1;exact V.ok.imp (λ_ h=>h.elim) (λ_ _ _=>k) _ (fY0 (B x) hc.2 h')
   rename_i x a;rw[a]at h;have h':opVC T σ (o.dst.getD n) (.move x) (Is v ms):=h;unfold opVC at h';simp only at h';exact QJ;rename_i x a;rw[a]at h;have h':opVC T σ (o.dst.getD n) (.nilCheck x) (Is v ms):=h;let⟨_,h'⟩:=aT h';exact QJ;rename_i t a;have hui:=Td hc;rw[a,e]at h;have h':opVC T σ u (.alloc t) (Is v ms):=h;unfold opVC at h';simp only at h';cases b:Nat.blt t (T.n t)with
   |false=>rw[b]at h';exact h'.elim
   |true=>
    rw[b]at h';exact Qw
   rename_i t x a;have hui:=Td hc;rw[a,e]at h;have h':=h;exact Qw
   ·rename_i t x y E a
    rw[a]at h;obtain⟨m,w⟩:∃m,m=y:=⟨_,rfl⟩
    have h':bD7 T .rem t (σ.ev x) (σ.ev y) (Is v ms):=by
     unfold bW at h;split at h<;>rename_i c<;>first|(cases c;done)|skip
     injection c with e1 e2 e3 e4 e5
     subst e1 e2 e3 e4 e5;split at h;rename_i r _;cases r;exact h;exact h
    unfold bD7 at h';split at h';rename_i z C A D _ _;by_cases g:z=A;simp[g,decide_true,TD]at h';have q:=(dX h').2;let⟨rfl,_⟩:=q;unfold lC;simp[V.ok];simp[g,decide_false,Tt]at h';exact(h':False).elim;exact h'.elim;exact LJ;let⟨_,h'⟩:=aT h';exact(h':False).elim;exact LJ;exact h'.elim
   cases hc
  let⟨_,h⟩:=h;split at h;exact key h;let⟨s,_,h⟩:=h;rcases h with⟨_,h⟩|⟨_,rfl,_⟩;exact key h;simp[V.ok,V.okL]
 rw[bU _ _ _ _ e];exact hg u i l
theorem cQ5(h:bW T P (.drawn hv) σ d (.indexAddr t x y) (Is v ms)):ms=[] :=by
 have h':=h;unfold opVC at h'
 have hm:Mo (λms=>ms=[]) (λK=>cond (Nat.blt t (T.n t)) (gI T (T.row t) σ (σ.ev x) (σ.ev y) K) False):=by
  refine Mo.cond ?_ Mo.false;unfold gI;split;split;exact Me;exact Me;split;exact Mo.need λ_=>Mo.cond (Mo.ret _ rfl) Mo.false;exact Mo.false;exact Mo.false;split;exact Mo.cond (Mo.ret _ rfl) Mo.false;exact Mo.cond (Mo.bJ λl=>Mo.ret _ rfl) Mo.false;exact Mo.false;exact Mo.false
 exact OG
theorem bS5(h:bW T P (.drawn hv) σ d (.load t x) (Is v ms)):ms=[] :=by
 have h':=h;unfold opVC at h'
 have hm:Mo (λms=>ms=[]) (λK=>cond (Nat.blt t (T.n t)) (pW (T.row t) σ (σ.ev x) K) False):=by
  refine Mo.cond ?_ Mo.false;unfold pW;split;split;exact rM (R:=λms=>ms=[]) rfl _ _;exact Mo.false;exact rM (R:=λms=>ms=[]) rfl _ _;split;exact Mo.need λ_=>Mo.idx λx=>Mo.cond (rM (R:=λms=>ms=[]) rfl _ _) Mo.false;exact Mo.false;exact Mo.false
 exact OG
def cT0(c:(σ.ev x).ok (λj=>j=i) q)(h:bW T P (.drawn hv) σ d (.store t x y) (Is v ms)):∀m∈ms,∀j,j≠i->¬m.isB j:=by
 have e:=h;unfold opVC at e
 have a:Mo (λms=>∀m∈ms,∀j,j≠i->¬m.isB j) (λK=>cond (Nat.blt t (T.n t)) (qU (T.row t) σ (σ.ev x) (σ.ev y) K) False):=by
  refine Mo.cond ?_ Mo.false;unfold qU;split;rename_i k off g;rw[g]at c;subst c;split;refine Mo.cond (Mo.bJ λl=>Mo.ret _ ?_) Mo.false;intro m a j f b;cases Ri.1 a;exact f b.symm
  exact Mo.false;split;refine Mo.need λ_=>Mo.idx λx=>Mo.cond (Mo.bJ λl=>Mo.ret _ ?_) Mo.false;intro m a j f b;cases Ri.1 a;exact b
  exact Mo.false;exact Mo.false
 let⟨w,r,⟨_,s⟩,u⟩:=a _ e;simp_all
theorem cL2(h:bW T P (.drawn hv) σ d (.call ⟨.builtin .append,as,e⟩) (Is v ms)):∀m∈ms,∀j,¬m.isB j:=by
 have one:∀(k:Nat) (en:AE),∀m∈[Mod.a k en],∀j,¬m.isB j:=λk en m hm j f=>by cases Ri.1 hm;exact f
 have h':opVC T σ d (.call ⟨.builtin .append,as,e⟩) (Is v ms):=h;unfold opVC at h';split at h'<;>rename_i b<;>try(cases b;done)
 rename_i s x t c
 have hm:Mo (λms=>∀m∈ms,∀j,¬m.isB j) (λK=>cond (Nat.blt t (T.n t)&&Nat.blt c (T.n c)) (kT T (T.row t) (T.row c).kd σ d (σ.ev s) (σ.ev x) K) False):=by
  refine Mo.cond ?_ Mo.false;unfold kT;split;refine Mo.cond (Mo.contsK λxs=>?_) Mo.false;split;exact KP;exact KP;exact KP;exact Mo.false;exact Mo.false
 exact Po;all_goals exact h'.elim
theorem bG5(H:∀x:Operand,(σ.ev x).ok σ.hasB σ.hasA)(h:bW T P (.drawn hv) σ d (.slice t x lo hi u) (Is v ms)):
 ms=[]/\∀y∈(Op.slice t x lo hi u).operands,(σ.ev y).ok (λ_=>False) (λk _=>∃en,σ.ar k=some en/\en.kind= .frz):=by
 have a:opVC T σ d (.slice t x lo hi u) (Is v ms):=by
  cases x<;>exact h
 unfold opVC at a;simp only at a
 have z:∀y,y∈(Op.slice t x lo hi u).operands->y=x\/lo=some y\/hi=some y\/u=some y:=by
  grind [Op.operands]
 have lit:∀{o}{y}{c}{K},o=some y->bound (o.map σ.ev) c K->(σ.ev y).ok (λ_=>False) (λk _=>∃en,σ.ar k=some en/\en.kind= .frz):=by
  intro o y c K e f;subst e;simp[Option.map]at f;generalize σ.ev y=M at f;unfold bound at f;split at f;rename_i e;cases e;rename_i e;cases e;trivial;exact f.elim
 have b:∀{o}{c}{K},bound o c K->∃n,K n:=by
  intro o c K f;unfold bound at f;grind
 have j:∀{K},lV σ (σ.ev x) K->(σ.ev x).ok (λ_=>False) (λk _=>∃en,σ.ar k=some en/\en.kind= .frz)/\∃xs,K xs:=by
  intro K B;unfold lV at B;grind [dX,V.ok]
 cases f:Nat.blt t (T.n t)with
 |false=>rw[f]at a;exact a.elim
 |true=>
  rw[f]at a;simp[cond]at a;unfold sZ at a;split at a;rename_i s G C;split at a;rename_i i;let⟨l,w⟩:=b a;let⟨F,g⟩:=b w;have q:=(dX g).2;refine⟨q.2.symm,λy A=>?_⟩;rcases z y A with rfl|e|e|e;rw[C];trivial;exact lit e a;exact lit e w;subst e;cases i;exact a.elim;rename_i G _;cases r:Nat.blt (T.row t).elem (T.n (T.row t).elem)with
  |false=>rw[r]at a;exact a.elim
  |true=>
   rw[r]at a;let⟨C,xs,D⟩:=j a;let⟨l,w⟩:=b D;let⟨F,g⟩:=b w;split at g;rename_i i;have q:=(dX g).2;refine⟨q.2.symm,λy A=>?_⟩;grind;rename_i m i;split at g;exact g.elim;let⟨J,q⟩:=b g;have E:=(dX q).2;refine⟨E.2.symm,λy A=>?_⟩;grind
  exact a.elim
theorem dN0(h:bW T P (.drawn hv) σ d (.call ⟨.builtin .append,as,f⟩) (Is v ms)):∀m∈ms,∀k en,σ.ar k=some en->en.kind= .frz->¬m.isA k:=by
 have one:∀(k:Nat) (b:AE),(∀en,σ.ar k=some en->en.kind≠ .frz)->∀m∈[Mod.a k b],∀j en,σ.ar j=some en->en.kind= .frz->¬m.isA j:=λk b q m hm j en i h2 l=>by
  cases Ri.1 hm;cases l;exact q en i h2
 have h':opVC T σ d (.call ⟨.builtin .append,as,f⟩) (Is v ms):=h;unfold opVC at h';split at h'<;>rename_i c<;>try(cases c;done)
 rename_i s x t e
 have hm:Mo (λms=>∀m∈ms,∀j en,σ.ar j=some en->en.kind= .frz->¬m.isA j) (λK=>cond (Nat.blt t (T.n t)&&Nat.blt e (T.n e)) (kT T (T.row t) (T.row e).kd σ d (σ.ev s) (σ.ev x) K) False):=by
  refine Mo.cond ?_ Mo.false;unfold kT;split;refine Mo.cond (Mo.contsK λxs=>?_) Mo.false;split;exact KQ;exact KQ;split;rename_i g hd;exact Mo.need λr=>Mo.ret _ (one _ _ (λen he=>by rw[hd]at he;cases he;rcases r.2.1 with h|h<;>rw[h] <;>simp));exact Mo.false;exact Mo.false;exact Mo.false
 exact Po;all_goals exact h'.elim
def dV9(b:hvO hv o=false)(he:∀t∈o.looksAt ops.toArray,σ'.env t=σ.env t)(k:(∃d,bW T P (.drawn hv) σ d o.op (Is v ms))->1<cls o.op->∀x∈o.op.operands,(σ.ev x).agr σ σ')(l:∀m∈ms,m.same σ σ')(h:Eff T P hv n ops o σ v ms):Eff T P hv n ops o σ' v ms:=by
 have a:∀x∈o.op.operands,σ'.ev x=σ.ev x:=by
  intro x hx;exact Ql
 let⟨u,i⟩:=h;refine⟨u,?_⟩;split at i;rename_i w;exact aO9 (λc=>by rw[aP3 b]at c;cases c) a (k ⟨_,i⟩) l i;rename_i j r w;let⟨s,z,e⟩:=i
 have y:σ'.env s=σ.env s:=by
  grind [uN,Oper.looksAt,tV]
 refine⟨s,z,?_⟩;rw[y];rcases e with⟨e,q⟩|e;exact .inl ⟨e,aO9 (λc=>by rw[aP3 b]at c;cases c) a (k ⟨_,q⟩) l q⟩;exact .inr e
def cY5(i:hvO hv p=false)(hno:hvO hv o=false)(wf:∀x:Operand,(σ.ev x).ok σ.hasB σ.hasA)(l:Oper.apart ops.toArray p o=true){lo hi B}(y:p.op= .slice t C lo hi B)(w:isApp o.op=true)
 (s:Eff T P hv n ops p σ v ms)(h2:Eff T P hv n ops o (σ.put p.dst v ms) v' ms'):
 Eff T P hv n ops o σ v' ms'/\Eff T P hv n ops p (σ.put o.dst v' ms') v ms/\(σ.put p.dst v ms).put o.dst v' ms'=(σ.put o.dst v' ms').put p.dst v ms:=by
 let⟨hp1,z,A⟩:=Ul l
 have c:ms=[] :=by
  grind [bG5,Eff]
 subst c;have b1:(σ.put p.dst v []).bx=σ.bx:=Fz;have a1:(σ.put p.dst v []).ar=σ.ar:=F5;have r:Eff T P hv n ops o σ v' ms':=MZ
 have D:∀m∈ms',∀k en,σ.ar k=some en->en.kind= .frz->¬m.isA k:=by
  have h2:=r;let⟨_,h2⟩:=h2
  have key:bW T P (.drawn hv) σ (o.dst.getD n) o.op (Is v' ms')->∀m∈ms',∀k en,σ.ar k=some en->en.kind= .frz->¬m.isA k:=by
   unfold isApp at w;grind [dN0]
  grind
 refine⟨r,?_,?_⟩
 ·refine dV9 i (σ:=σ) ?_ ?_ ?_ s
  ·grind [bU]
  ·rintro⟨d,q⟩ _ x hx
   rw[y]at q hx;refine V.ok.imp ?_ ?_ _ ((bG5 wf q).2 x hx)
   ·intro _ h;exact h.elim
   ·simp_all [nX,lW]
  ·intro m u;cases u
 ·grind [put_comm]
theorem eC6(h:bW T P (.drawn hv) σ d (.call ⟨.builtin .len,as,b⟩) (Is v ms)):ms=[] :=by
 have h':opVC T σ d (.call ⟨.builtin .len,as,b⟩) (Is v ms):=h;unfold opVC at h';split at h'<;>rename_i a<;>try(cases a;done)
 rename_i x t
 have hm:Mo (λms=>ms=[]) (λK=>cond (Nat.blt t (T.n t)) (match(T.row t).kd with| .slice=>aE9 σ (σ.ev x) K| .str=>aI4 (σ.ev x) K|_=>False) False):=by
  refine Mo.cond ?_ Mo.false;split;unfold aE9;split;exact Mo.ret _ rfl;exact Mo.ret _ rfl;exact Mo.ret _ rfl;split;exact Mo.need λ_=>Mo.ret _ rfl;exact Mo.false;exact Mo.false;unfold aI4;split;exact Mo.ret _ rfl;exact Mo.false;exact Mo.false
 exact OG;all_goals exact h'.elim
def dL0(hnp:hvO hv p=false)(hno:hvO hv o=false)(wf:∀x:Operand,(σ.ev x).ok σ.hasB σ.hasA)(l:Good cl σ)(q:Oper.apart ops.toArray p o=true)(hs:aM7 cl p.op o.op=true)
 (A:Eff T P hv n ops p σ v ms)(h2:Eff T P hv n ops o (σ.put p.dst v ms) v' ms'):
 Eff T P hv n ops o σ v' ms'/\Eff T P hv n ops p (σ.put o.dst v' ms') v ms/\(σ.put p.dst v ms).put o.dst v' ms'=(σ.put o.dst v' ms').put p.dst v ms:=by
 by_cases k:∃t x lo hi B,p.op= .slice t x lo hi B
 ·let⟨t,x,lo,hi,B,k⟩:=k
  rw[k]at hs;exact cY5 hnp hno wf q k hs A h2
 let⟨hp1,F,G⟩:=Ul q
 obtain⟨i,hs,z,H⟩:∃i,sepO cl i o.op=true/\(∀x∈p.op.operands,(σ.ev x).ok (λj=>j=i) (λ_ _=>False))/\(∀d v ms,bW T P (.drawn hv) σ d p.op (Is v ms)->ms=[]):=by
  unfold aM7 at hs;split at hs;rename_i t u c;split at hs;rename_i i hi;rw[Ru]at hs;refine⟨i,hs.2,λx hx=>?_,λd v ms h=>?_⟩;rw[c]at hx;have:x= .tmp u:=Gl;subst this;exact l.ne hi H9;rw[c]at h;exact bS5 h;cases hs;rename_i t u y c;split at hs;rename_i i hi;rw[Ru,Ru]at hs;refine⟨i,hs.2.2,λx hx=>?_,λd v ms h=>?_⟩;rw[c]at hx;have:x= .tmp u\/x=y:=Gl;rcases this with rfl|rfl;exact l.ne hi H9;exact fZ4 l H9 hs.2.1;rw[c]at h;exact cQ5 h;cases hs;simp_all;rename_i u L c;split at hs;rename_i i hi;rw[Ru]at hs;refine⟨i,hs.2,λx hx=>?_,λd v ms h=>?_⟩;rw[c]at hx;have:x= .tmp u:=by simpa [Op.operands,Call.operands]using hx
  subst this;exact l.ne hi H9;rw[c]at h;exact eC6 h;cases hs;cases hs
 have s:ms=[] :=by
  grind [Eff]
 subst s;have b1:(σ.put p.dst v []).bx=σ.bx:=Fz;have a1:(σ.put p.dst v []).ar=σ.ar:=F5;have C:Eff T P hv n ops o σ v' ms':=MZ
 have I:∀m∈ms',¬m.isB i:=by
  have h2:=C;let⟨_,h2⟩:=h2
  have key:bW T P (.drawn hv) σ (o.dst.getD n) o.op (Is v' ms')->∀m∈ms',¬m.isB i:=by
   intro h;unfold sepO at hs;split at hs;rename_i J D y w;rw[w]at h;split at hs;rename_i j E;refine λm r=>cT0 (σ:=σ) (x:= .tmp D) (i:=j) (l D j E) h m r i (λe=>?_);subst e;simp at hs;cases hs;grind [cL2];cases hs
  grind
 refine⟨C,?_,?_⟩
 ·refine mW (σ:=σ) (λhq=>Ew) ?_ ?_ ?_ A
  ·grind [bU]
  ·intro _ x hx
   refine V.ok.imp ?_ ?_ _ (z x (by simpa using hx))
   ·simp_all [lT,jJ]
   ·intro _ _ h;exact h.elim
  ·intro m r;cases r
 ·grind [put_comm]
mutual
theorem cD8{p p':Nat->Prop}{q a:Nat->Nat->Prop}: {x:V}->x.ok p q->x.ok p' a->x.ok (λi=>p i/\p' i) (λk g=>q k g/\a k g)
 | .box i _,h,h'=>Ey
 | .arr k g,h,h'=>Ey
 | .ae k g _ _ _,h,h'=>Ey
 | .agg cs,h,h'=>DU
 | .tup cs,h,h'=>DU
 | .sl l,h,_=>Ba
 | .cap l,h,_=>Ba
 | .fp l,h,_=>Ba
 | .fn _ l,h,h'=>DU
 | .own _ l,h,_=>Ba
 | .ap _ l,h,_=>Ba
 | .bot,_,_=>BN
 | .lit _,_,_=>BN
theorem aL2{p p':Nat->Prop}{q b:Nat->Nat->Prop}: {l:List V}->V.okL p q l->V.okL p' b l->V.okL (λi=>p i/\p' i) (λk g=>q k g/\b k g) l
 | [],_,_=>Cc
 |x::r,h,a=>by simp only[V.okL]at h a⊢;exact⟨cD8 h.1 a.1,aL2 h.2 a.2⟩
end
def Mod.frzA:Mod->Prop
 | .a _ en=>en.kind= .frz
 | .b _ _=>False
def gH6 l:capK l≠ .frz:=by
 unfold capK;split<;>exact λh=>Ah
theorem fO7(h:bW T P (.drawn hv) σ d (.call ⟨.builtin .append,as,e⟩) (Is v ms)):∀m∈ms,¬m.frzA:=by
 have one:∀(k:Nat) (en:AE),en.kind≠ .frz->∀m∈[Mod.a k en],¬m.frzA:=λk en g m hm f=>by cases Ri.1 hm;exact g f
 have h':opVC T σ d (.call ⟨.builtin .append,as,e⟩) (Is v ms):=h;unfold opVC at h';split at h'<;>rename_i b<;>try(cases b;done)
 rename_i s x t c
 have hm:Mo (λms=>∀m∈ms,¬m.frzA) (λK=>cond (Nat.blt t (T.n t)&&Nat.blt c (T.n c)) (kT T (T.row t) (T.row c).kd σ d (σ.ev s) (σ.ev x) K) False):=by
  refine Mo.cond ?_ Mo.false;unfold kT;split;refine Mo.cond (Mo.contsK λxs=>?_) Mo.false;split;split;exact Mo.need λ_=>Mo.ret _ (one _ _ (λh=>Ah));exact Mo.false;split;exact Mo.need λ_=>Mo.ret _ (one _ _ (gH6 _));exact Mo.false;split;exact Mo.need λi=>Mo.ret _ (one _ _ (by rcases i.2.1 with q|q<;>rw[q] <;>exact λh=>by cases h));exact Mo.false;exact Mo.false;exact Mo.false
 exact Po;all_goals exact h'.elim
theorem fY9:∀ ms (σ:St),(∀m∈ms,¬m.frzA)->(σ.apps ms).ar j=some en->en.kind= .frz->σ.ar j=some en
 | [],σ,_,h,_=>h
 |m::r,σ,s,h,q=>by
  have t:=h;have g:=fY9 r (m.app σ) (λu f=>s u (RZ _ f)) t q;cases m with
  |b i cs=>exact g
  |a k e=>
   have c:upd σ.ar k (some e) j=some en:=g;by_cases l:j=k;subst l;rw[upd_same]at c;cases c;exact absurd q (s (Mod.a j en) (SQ ..));rw[upd_ne _ _ l]at c;exact c
def gE0(hnp:hvO hv p=false)(C:hvO hv o=false)(wf:∀x:Operand,(σ.ev x).ok σ.hasB σ.hasA)(w:∀x:Operand,((σ.put p.dst v ms).ev x).ok (σ.put p.dst v ms).hasB (σ.put p.dst v ms).hasA)(M:Good cl σ)(D:Oper.apart ops.toArray p o=true)(E:fL7 cl p.op o.op=true)
 (h1:Eff T P hv n ops p σ v ms)(G:Eff T P hv n ops o (σ.put p.dst v ms) v' ms'):
 Eff T P hv n ops o σ v' ms'/\Eff T P hv n ops p (σ.put o.dst v' ms') v ms/\(σ.put p.dst v ms).put o.dst v' ms'=(σ.put o.dst v' ms').put p.dst v ms:=by
 let⟨hp1,O,Q⟩:=Ul D;unfold fL7 at E;rw[Ru]at E;let⟨I,u⟩:=E
 have z:(∀m∈ms,∀j,¬m.isB j)/\(∀m∈ms,¬m.frzA):=by
  have c:=h1;unfold Eff at c;let⟨_,c⟩:=c;unfold isApp at I;grind [cL2,fO7]
 let⟨R,S⟩:=z
 have A:∀j,(σ.put p.dst v ms).bx j=σ.bx j:=λj=>by
  simp_all [lT,jJ]
 have r:∀x∈o.op.operands,(σ.put p.dst v ms).ev x=σ.ev x:=λx hx=>Jc
 have J:(cl.any λq=> !Nat.beq q.2 77777&&o.op.operands.all λx=>zO cl x q.2)=true->∃i,∀x∈o.op.operands,(σ.ev x).ok (λj=>j=i) (λ_ _=>False):=λh=>by
  rw[List.any_eq_true]at h;let⟨q,_,hq⟩:=h;rw[Ru,Array.all_eq_true_iff_forall_mem]at hq;exact⟨q.2,λx hx=>fZ4 M (by simpa using hq.1) (hq.2 x hx)⟩
 have H:(∃i,∀x∈o.op.operands,(σ.ev x).ok (λj=>j=i) (λ_ _=>False))->∀x∈o.op.operands,(σ.ev x).agr (σ.put p.dst v ms) σ:=λ⟨i,h⟩ x hx=>V.ok.imp (λj _=>(A j).symm) (λ_ _ h=>h.elim) _ (h x hx)
 have key:ms'=[]/\((∃d,bW T P (.drawn hv) (σ.put p.dst v ms) d o.op (Is v' ms'))->∀x∈o.op.operands,(σ.ev x).agr (σ.put p.dst v ms) σ):=by
  have k:=G;unfold Eff at k;let⟨_,k⟩:=k
  have F:(∀d,bW T P (.drawn hv) (σ.put p.dst v ms) d o.op (Is v' ms')->ms'=[])->ms'=[] :=λh=>by
   grind
  split at u;rename_i l;refine⟨F (λd h=>by rw[l]at h;exact(bG5 w h).1),?_⟩;rintro⟨d,h⟩ x hx;rw[l]at h hx;have s:=(bG5 w h).2 x hx;rw[r x (by rw[l];exact hx)]at s;refine V.ok.imp ?_ ?_ _ s;intro _ h;exact h.elim;grind [nX,fY9];grind [bS5];grind [cQ5];grind [eC6];cases u
 let⟨B,y⟩:=key;subst B;have b1:(σ.put o.dst v' []).bx=σ.bx:=Fz;have a1:(σ.put o.dst v' []).ar=σ.ar:=F5;refine⟨?_,?_,?_⟩
 ·refine dV9 C (σ:=σ.put p.dst v ms) ?_ ?_ ?_ G
  ·grind [bU]
  ·intro L _ x hx
   rw[r x hx];exact y L x hx
  ·intro m N;cases N
 ·exact J6
 ·grind [put_comm]
def Hd(a b:Option AE):Prop:=match a,b with
 |some x,some y=>x.gen=y.gen/\x.kind=y.kind/\x.ty=y.ty/\x.l.length=y.l.length
 |none,none=>True
 |_,_=>False
def Hd.rfl' a:Hd a a:=by cases a<;>simp[Hd]
def Hd.symm(h:Hd a b):Hd b a:=by
 cases a<;>cases b<;>simp_all [Hd]
def fX4(h:bW T P (.drawn hv) σ d (.store t x y) (Is v ms)) k:Hd (σ.ar k) ((σ.apps ms).ar k):=by
 have a:opVC T σ d (.store t x y) (Is v ms):=h;let⟨_,a⟩:=aT a;unfold qU at a;split at a;split at a;let⟨_,a⟩:=aT a;rw[bC]at a;let⟨_,rfl⟩:=a;exact Hd.rfl' _;exact a.elim;rename_i j g sz i off e;split at a;rename_i en b;let⟨_,a⟩:=dX a;let⟨z,f,a⟩:=cO3 a;let⟨_,a⟩:=aT a;rw[bC]at a;let⟨_,rfl⟩:=a;show Hd (σ.ar k) (upd σ.ar j (some _) k);by_cases c:k=j;subst c;rw[upd_same,b];exact⟨rfl,rfl,rfl,Ad⟩;rw[upd_ne _ _ c];exact Hd.rfl' _;exact a.elim;exact a.elim
def fL9(a:∃t x y,p.op= .store t x y)(h:Eff T P hv n ops p σ v ms) k:Hd (σ.ar k) ((σ.apps ms).ar k):=by
 let⟨t,x,y,a⟩:=a;unfold Eff at h;rw[a]at h;let⟨_,h⟩:=h;split at h;exact fX4 h k;let⟨s,_,h⟩:=h;rcases h with⟨_,h⟩|⟨_,_,rfl⟩;exact fX4 h k;exact Hd.rfl' _
def fU8(f:∀k,Hd (σ.ar k) (σ'.ar k))(h:gI T r σ x y (Is v ms)):gI T r σ' x y (Is v ms):=by
 cases x
 case arr k g=>
  have c:=f k;unfold gI at h⊢;split at h;rename_i i;simp only at h⊢;generalize σ.ar k=a at h c;generalize σ'.ar k=b at c⊢;cases a with
  |none=>exact h.elim
  |some en=>
   cases b with
   |none=>exact c.elim
   |some e=>
    let⟨j,l,m,q⟩:=c;simp_all
  exact h.elim;exact h.elim
 all_goals exact h
def fT5(b:∃t x y,o.op= .indexAddr t x y)(m:∀t∈o.looksAt ops.toArray,σ'.env t=σ.env t)(q:∀k,Hd (σ.ar k) (σ'.ar k))(h:Eff T P hv n ops o σ v ms):Eff T P hv n ops o σ' v ms:=by
 let⟨t,x,y,b⟩:=b
 have a:∀z∈o.op.operands,σ'.ev z=σ.ev z:=by
  intro z r;cases z with
  |tmp t=>
   refine m t ?_;unfold Oper.looksAt;rw[Rh];left;rw[List.mem_filterMap];exact⟨.tmp t,U3.2 r,rfl⟩
  |const v=>rfl
  |global g=>rfl
  |func f=>rfl
 have e:=a x (by rw[b];simp[Op.operands]);have i:=a y (by rw[b];simp[Op.operands])
 have key:∀d,bW T P (.drawn hv) σ d o.op (Is v ms)->bW T P (.drawn hv) σ' d o.op (Is v ms):=by
  intro d h;rw[b]at h⊢;have c:=h;show opVC T σ' d (.indexAddr t x y) (Is v ms);unfold opVC at c⊢;simp only at c⊢;let⟨j,l⟩:=aT c;rw[j,e,i];exact fU8 q l
 grind [uN,Eff,Oper.looksAt,tV]
def fJ4(a:∃t x y,o.op= .indexAddr t x y)(h:Eff T P hv n ops o σ v ms):ms=[] :=by
 grind [cQ5,Eff]
def gJ0(hnp:hvO hv p=false)(hno:hvO hv o=false)(wf:∀x:Operand,(σ.ev x).ok σ.hasB σ.hasA)(u:Oper.apart ops.toArray p o=true)(w:fY1 p.op o.op=true)
 (h1:Eff T P hv n ops p σ v ms)(q:Eff T P hv n ops o (σ.put p.dst v ms) v' ms'):
 Eff T P hv n ops o σ v' ms'/\Eff T P hv n ops p (σ.put o.dst v' ms') v ms/\(σ.put p.dst v ms).put o.dst v' ms'=(σ.put o.dst v' ms').put p.dst v ms:=by
 let⟨hp1,B,s⟩:=Ul u;have r:∀x∈o.op.operands,(σ.put p.dst v ms).ev x=σ.ev x:=λx hx=>Jc;unfold fY1 at w;split at w
 ·rename_i t x y C x' D l i
  have c:=fJ4 ⟨_,_,_,l⟩ h1;subst c;have b1:(σ.put p.dst v []).bx=σ.bx:=Fz;have a1:(σ.put p.dst v []).ar=σ.ar:=F5
  have A:Eff T P hv n ops o σ v' ms':=by
   refine mW (σ:=σ.put p.dst v []) (λhq=>Eu) ?_ ?_ ?_ q;grind [bU];intro _ x hx;rw[r x hx];exact V.ok.imp (λj _=>Ir) (λj _ _=>Iu) _ (wf x);intro m _;cases m with
   |b j cs=>show σ.bx j=_;rw[b1]
   |a j cs=>show σ.ar j=_;rw[a1]
  refine⟨A,?_,?_⟩
  ·refine fT5 ⟨_,_,_,l⟩ (λt z=>bU _ _ _ _ (λe=>s t e z)) (λk=>?_) h1
   rw[nX];exact fL9 ⟨_,_,_,i⟩ A k
  ·grind [put_comm]
 ·rename_i t x y C x' D l i
  have c:=fJ4 ⟨_,_,_,i⟩ q;subst c;have b1:(σ.put o.dst v' []).bx=σ.bx:=Fz;have a1:(σ.put o.dst v' []).ar=σ.ar:=F5;refine⟨?_,?_,?_⟩
  ·refine fT5 ⟨_,_,_,i⟩ (λt z=>(bU _ _ _ _ (λe=>hp1 t e z)).symm) (λk=>?_) q
   rw[nX];exact(fL9 ⟨_,_,_,l⟩ h1 k).symm
  ·exact J6
  ·grind [put_comm]
 ·cases w
def aJ7:∀ {ys xs} {N} {K},oJ ar is [] ys xs N K->∃vs ms,K vs ms/\∀m∈ms,∃k en,m= .a k en/\ar k=none:=by
 intro ys;induction ys with
 |nil=>
  intro xs N K h;cases xs with
  |nil=>exact⟨[],[],h,λm hm=>Ii⟩
  |cons x r=>exact(h:False).elim
 |cons y r q=>
  intro xs N K h;cases xs with
  |nil=>exact(h:False).elim
  |cons x xr=>
   have i:∀ b  e  l ,(xO ar [] N b e l x λv m=>oJ ar is [] r xr (N+1000) λvs ms=>K (v::vs) (m::ms))->∃vs ms,K vs ms/\∀m∈ms,∃k en,m= .a k en/\ar k=none:=by
    intro b e l c;rcases aT3 c with⟨k,g,en,_,f,_⟩|⟨j,hK⟩;cases f;grind
   grind [zL,force_eq]
def bE6:∀ {bs} {is} {N} {K},aB3 bx ar c [] bs is N K->∃ms,K ms/\∀m∈ms,(∃k en,m= .a k en/\ar k=none)\/∃i∈is,m.isB i:=by
 intro bs;induction bs with
 |nil=>
  intro is N K h;cases is with
  |nil=>exact⟨[],h,λm hm=>Ii⟩
  |cons x r=>exact(h:False).elim
 |cons b r e=>
  intro is N K h;cases is with
  |nil=>exact(h:False).elim
  |cons i f=>
   rw[aJ1]at h;split at h;let⟨vs,ms,h,q⟩:=aJ7 h;let⟨ns,h,g⟩:=e h;refine⟨_,h,λm hm=>?_⟩;rw[bT]at hm;rcases Rh.1 hm with hm|hm;exact .inl (q m hm);rcases Rl.1 hm with rfl|hm;exact .inr ⟨i,Ad,rfl⟩;grind;exact h.elim
def bB5(G:hvOf hv d=some c)(u:memR 88888 c=false)(h:kY T P (.drawn hv) σ d f xs (Is v ms)):∀m∈ms,m.fresh σ\/∃i∈c,m.isB i:=by
 rcases h.out with⟨ys,r,lend,C,y,D,h4⟩|⟨e,_⟩|⟨ys,is,bs,r,B,e,C,y,D,h4⟩;have hc:=y;simp only[sO,Md.light,Ru,TD,Uz]at hc
 have q:bD ys xs=[] :=by
  grind [TJ,iL,RS]
 have H:cond lend [] (aV σ (bK ys xs))=[] :=KW
 have g:∀(ms:List Mod),appR (cond lend [] (aV σ (bK ys xs))) (appR (aX σ (bD ys xs)) ms)=ms:=λms=>by
  rw[H,q];rfl
 have w:reuse σ (bD ys xs)=none:=by rw[q];rfl
 simp[g,w]at h4;let⟨N,l,⟨_,q1⟩,q2,M⟩:=bO7 h4;simp_all;cases e;unfold Md.may at e;simp only[G,u,Bool.false_or,Ru]at e;let⟨⟨L,z⟩,A⟩:=e;have q:ownG ((xs,ys)::eU σ.bx bs is)=[] :=by rw[TJ,iL]at z;exact RS.1 z
 have J:mF ((xs,ys)::eU σ.bx bs is)=[] :=by rw[TJ,iL]at A;exact RS.1 A
 have t:=λi hi=>pM.1 (dY.1 L i hi);rw[q,J]at h4
 have hfin:∀ a b ,(∀m∈a,∃k en,m= .a k en/\σ.ar k=none)->(∀m∈b,(∃k en,m= .a k en/\σ.ar k=none)\/∃i∈is,m.isB i)->∀m∈appR (aV σ []) (appR (aX σ []) (appR a b)),m.fresh σ\/∃i∈c,m.isB i:=by
  intro a b E F m I;have j:m∈appR a b:=I;rw[bT]at j;rcases Rh.1 j with h|h;obtain⟨k,en,rfl,g⟩:=E m h;exact .inl g;rcases F m h with⟨k,en,rfl,g⟩|⟨i,hi,s⟩;exact .inl g;exact .inr ⟨i,t i hi,s⟩
 unfold aX2 at h4;split at h4;let⟨vs,l,h4,q1⟩:=aJ7 h4;exact Qq;let⟨vs,l,h4,q1⟩:=aJ7 h4;cases vs with
 |nil=>exact h4.elim
 |cons x xr=>
  exact Qq
def bI3(h:bW T P (.drawn hv) σ d (.fieldAddr t x f) (Is v ms)):ms=[] :=by
 have h':=h;unfold opVC at h'
 have hm:Mo (λms=>ms=[]) (λK=>cond (Nat.blt t (T.n t)) (jB (T.row t) (σ.ev x) f K) False):=by
  refine Mo.cond ?_ Mo.false;unfold jB;split;refine Mo.cond Mo.false ?_;split;exact Mo.ret _ rfl;exact Mo.bJ λl=>Mo.ret _ rfl;exact Mo.ret _ rfl;exact Mo.false;exact Mo.false
 exact OG
def bQ7(h:bW T P (.drawn hv) σ d (.move x) (Is v ms)):ms=[] :=by
 have a:force (σ.ev x) (λv'=>Is v ms v' []):=h;rw[force_eq]at a;exact a.2.symm
def aH1(h:bW T P (.drawn hv) σ d (.nilCheck x) (Is v ms)):ms=[] :=by
 have a:=h;let⟨_,a⟩:=aT a;rw[force_eq]at a;exact a.2.symm
def yI(a:aI5 cl c p.op=true):(∀ σ d v ms,bW T P (.drawn hv) σ d p.op (Is v ms)->ms=[])/\hvO hv p=false/\
 (cls p.op<=1\/∃i,i∉c/\∀σ,Good cl σ->∀x∈p.op.operands,(σ.ev x).ok (λj=>j=i) (λ_ _=>False)):=by
 unfold aI5 at a;split at a
 ·rename_i t u hop
  split at a
  ·rename_i i hi
   rw[Ru]at a;let⟨b,a⟩:=a;refine⟨λσ d v ms h=>by rw[hop]at h;exact bS5 h,CY, .inr ⟨i,λf=>by simp[f]at a,λσ e x hx=>?_⟩⟩;rw[hop]at hx;have:x= .tmp u:=Gl;subst this;exact e.ne hi (by simpa using b)
  ·cases a
 ·rename_i hop
  exact⟨λσ d v ms h=>by rw[hop]at h;exact bI3 h,CY, .inl EG⟩
 ·rename_i hop
  exact⟨λσ d v ms h=>by rw[hop]at h;exact bQ7 h,CY, .inl EG⟩
 ·rename_i hop
  exact⟨λσ d v ms h=>by rw[hop]at h;exact aH1 h,CY, .inl EG⟩
 ·cases a
def wG(a:aI7 p.op=true):(∀ σ d v ms,bW T P (.drawn hv) σ d p.op (Is v ms)->ms=[])/\hvO hv p=false/\cls p.op<=1:=by
 unfold aI7 at a;split at a;rename_i hop;exact⟨λσ d v ms h=>by rw[hop]at h;exact bI3 h,CY,EG⟩;rename_i hop;exact⟨λσ d v ms h=>by rw[hop]at h;exact bQ7 h,CY,EG⟩;rename_i hop;exact⟨λσ d v ms h=>by rw[hop]at h;exact aH1 h,CY,EG⟩;cases a
def bE8(a:aI7 p.op=true)(h:Eff T P hv n ops p σ v ms):ms=[] :=by
 let⟨_,h⟩:=h;split at h;exact(wG (T:=T) (P:=P) (hv:=hv) a).1 _ _ _ _ h;let⟨s,_,h⟩:=h;rcases h with⟨_,h⟩|⟨_,_,h⟩;exact(wG (T:=T) (P:=P) (hv:=hv) a).1 _ _ _ _ h;exact h
def bU6(a:aI5 cl b p.op=true)(h:Eff T P hv n ops p σ v ms):ms=[] :=by
 let⟨_,h⟩:=h;split at h;exact(yI (T:=T) (P:=P) (hv:=hv) a).1 _ _ _ _ h;let⟨s,_,h⟩:=h;rcases h with⟨_,h⟩|⟨_,_,h⟩;exact(yI (T:=T) (P:=P) (hv:=hv) a).1 _ _ _ _ h;exact h
def bP4(e:blOf hv o=some j)(h:Eff T P hv n ops o σ v ms):∀m∈ms,m.fresh σ\/∃i∈j,m.isB i:=by
 unfold blOf at e;split at e;rename_i d q s
 obtain⟨e,k⟩:hvOf hv d=some j/\memR 88888 j=false:=by
  grind
 have key:bW T P (.drawn hv) σ (o.dst.getD n) o.op (Is v ms)->∀m∈ms,m.fresh σ\/∃i∈j,m.isB i:=by
  intro h;rw[s]at h;unfold aG7 at q;split at q;rename_i l as u r;rw[r]at h;cases l with
  |func f=>
   have a:bJ (mapR σ.ev as.toList) (λxs=>kY T P (.drawn hv) σ d f xs (Is v ms)):=h;rw[bC]at a;exact bB5 e k a
  |tmp t=>
   have a:(match σ.env t with
    | .fn g b=>cond (isFnC b) (bJ (mapR σ.ev as.toList) λxs=>kY T P (.drawn hv) σ d g (argsV b xs) (Is v ms)) False
    |_=>False):=h
   split at a;let⟨_,a⟩:=aT a;rw[bC]at a;exact bB5 e k a;exact a.elim
  |const c=>exact(h:False).elim
  |global g=>exact(h:False).elim
  cases q
 grind [Eff];cases e
def cX5(hx:x∈o.op.operands)(h:∀t,p.dst=some t->t∉o.looksAt ops.toArray):(σ.put p.dst v ms).ev x=σ.ev x:=by
 cases x with
 |tmp t=>
  refine bU _ _ _ _ (λe=>h t e ?_);exact Pg
 |const v=>rfl
 |global g=>rfl
 |func f=>rfl
def eM0(wf:∀x:Operand,(σ.ev x).ok σ.hasB σ.hasA)(w:Good cl σ)(l:Oper.apart ops.toArray p o=true)(u:blOf hv o=some r)(hq:aI5 cl r p.op=true)
 (s:Eff T P hv n ops p σ v ms)(h2:Eff T P hv n ops o (σ.put p.dst v ms) v' ms'):
 Eff T P hv n ops o σ v' ms'/\Eff T P hv n ops p (σ.put o.dst v' ms') v ms/\(σ.put p.dst v ms).put o.dst v' ms'=(σ.put o.dst v' ms').put p.dst v ms:=by
 let⟨hp1,y,z⟩:=Ul l;have e:=bU6 hq s;subst e;let⟨_,hnp,c⟩:=yI (T:=T) (P:=P) (hv:=hv) hq;have b1:(σ.put p.dst v []).bx=σ.bx:=Fz;have a1:(σ.put p.dst v []).ar=σ.ar:=F5;have t:=Jz;have hmo:=bP4 u t;refine⟨t,?_,?_⟩
 ·refine mW (σ:=σ) (λhq=>Ew) ?_ ?_ ?_ s
  ·grind [bU]
  ·intro A x hx
   rcases c with c|⟨i,hi,c⟩
   ·omega
   ·have f:=c σ w x hx
    have q:=wf x;refine V.ok.imp ?_ ?_ _ (cD8 f q)
    ·rintro j ⟨rfl,cs,hj⟩
     rw[lT];refine jJ _ _ _ (λm hm hbm=>?_);exact QB
    ·rintro k g ⟨h,_⟩;exact h.elim
  ·intro m hm;cases hm
 ·grind [put_comm]
def eS5(wf:∀x:Operand,(σ.ev x).ok σ.hasB σ.hasA)(u:Good cl σ)(q:Oper.apart ops.toArray p o=true)(t:blOf hv p=some r)(hq:aI5 cl r o.op=true)
 (h1:Eff T P hv n ops p σ v ms)(s:Eff T P hv n ops o (σ.put p.dst v ms) v' ms'):
 Eff T P hv n ops o σ v' ms'/\Eff T P hv n ops p (σ.put o.dst v' ms') v ms/\(σ.put p.dst v ms).put o.dst v' ms'=(σ.put o.dst v' ms').put p.dst v ms:=by
 let⟨l,w,y⟩:=Ul q;have e:=bU6 hq s;subst e;let⟨_,hno,c⟩:=yI (T:=T) (P:=P) (hv:=hv) hq;have hmo:=bP4 t h1;have b1:(σ.put o.dst v' []).bx=σ.bx:=Fz;have a1:(σ.put o.dst v' []).ar=σ.ar:=F5;refine⟨?_,?_,?_⟩
 ·refine mW (σ:=σ.put p.dst v ms) (λhq=>Eu) ?_ ?_ ?_ s
  ·grind [bU]
  ·intro z x hx
   rw[cX5 hx l];rcases c with c|⟨i,hi,c⟩
   ·omega
   ·have f:=c σ u x hx
    refine V.ok.imp ?_ ?_ _ (cD8 f (wf x))
    ·rintro j ⟨rfl,cs,hj⟩
     rw[lT];refine(jJ _ _ _ (λm hm hbm=>?_)).symm;exact QB
    ·rintro k g ⟨h,_⟩;exact h.elim
  ·intro m hm;cases hm
 ·exact JH
 ·grind [put_comm]
def eR7(wf:∀x:Operand,(σ.ev x).ok σ.hasB σ.hasA)(e:Oper.apart ops.toArray p o=true)(f:aI7 p.op=true)
 (g:Eff T P hv n ops p σ v ms)(h2:Eff T P hv n ops o (σ.put p.dst v ms) v' ms'):
 Eff T P hv n ops o σ v' ms'/\Eff T P hv n ops p (σ.put o.dst v' ms') v ms/\(σ.put p.dst v ms).put o.dst v' ms'=(σ.put o.dst v' ms').put p.dst v ms:=by
 let⟨hp1,l,q⟩:=Ul e;have c:=bE8 f g;subst c;let⟨_,k,i⟩:=wG (T:=T) (P:=P) (hv:=hv) f;have b1:(σ.put p.dst v []).bx=σ.bx:=Fz;have a1:(σ.put p.dst v []).ar=σ.ar:=F5;have r:=Jz;grind [mW,bU,put_comm]
def eO9(wf:∀x:Operand,(σ.ev x).ok σ.hasB σ.hasA)(e:Oper.apart ops.toArray p o=true)(f:aI7 o.op=true)
 (h1:Eff T P hv n ops p σ v ms)(g:Eff T P hv n ops o (σ.put p.dst v ms) v' ms'):
 Eff T P hv n ops o σ v' ms'/\Eff T P hv n ops p (σ.put o.dst v' ms') v ms/\(σ.put p.dst v ms).put o.dst v' ms'=(σ.put o.dst v' ms').put p.dst v ms:=by
 let⟨l,q,r⟩:=Ul e;have c:=bE8 f g;subst c;let⟨_,k,i⟩:=wG (T:=T) (P:=P) (hv:=hv) f;have b1:(σ.put o.dst v' []).bx=σ.bx:=Fz;have a1:(σ.put o.dst v' []).ar=σ.ar:=F5;refine⟨?_,?_,?_⟩
 ·grind [mW,bU]
 ·exact JH
 ·grind [put_comm]
end
def Real(T:Tab)(Φ:Fr)(σ:St):Prop:=∃a w G,Inv T Φ σ a w G
section
variable{T:Tab}{P:Program}{Φ:Fr}{σ:St}{a:Act}{w w':World}{G G':Gh}{o:Oper}{d:Nat}{v:V}{ms:List Mod}{ops:List Oper}{K:St->Prop}{hv:List (Nat×List Nat)}
theorem Real.wf(h:Real T Φ σ) x:(σ.ev x).ok σ.hasB σ.hasA:=by
 let⟨a,w,G,inv⟩:=h;exact(inv.ev x).2
def bW2(hT:bP T P)(hr:Real T Φ σ)(hd:∀d,o.dst=some d->Φ.wr d)(h:bW T P (.drawn hv) σ d o.op (Is v ms)):Real T Φ (σ.put o.dst v ms):=by
 let⟨a,w,G,inv⟩:=hr;unfold bW at h;split at h;rename_i f as y k;rw[bC,dU]at h;let⟨m,hcalls⟩:=bF2 inv as h;exact OV;split at h;rename_i g j i;let⟨b,h⟩:=aT h;rw[bC,dU]at h;let⟨q,r,n,m,hcalls⟩:=aX3 inv i b h;exact OV;exact h.elim;rename_i t x lo hi s k;exact O8;rename_i l t x c u k;exact O8;obtain⟨v',w1,v1,ms1,G',hr,⟨rfl,rfl⟩,inv',hv,hvo⟩:=xQ hT inv o h;exact⟨_,_,_,Inv.put' _ inv' hd hv hvo⟩
def dY4(i:bP T P)(f:Real T Φ σ)(e:∀d,o.dst=some d->Φ.keep d=none)(h:Eff T P hv Φ.n ops o σ v ms):Real T Φ (σ.put o.dst v ms):=by
 let⟨j,c⟩:=h;have b:∀d,o.dst=some d->Φ.wr d:=λd h=>⟨j d h,e d h⟩;split at c;exact bW2 i f b c;let⟨s,l,g⟩:=c;rcases g with⟨g,k⟩|⟨g,rfl,rfl⟩;exact bW2 i f b k;let⟨a,w,G,inv⟩:=f;exact⟨_,_,_,Inv.put' [] inv b (xK w G) Et⟩
def RunI(T:Tab)(P:Program)(hv:List (Nat×List Nat))(n:Nat)(ops:List Oper):List Nat->St->(St->Prop)->Prop
 | [],σ,K=>K σ
 |i::r,σ,K=>∃o v ms,ops[i]? =some o/\Eff T P hv n ops o σ v ms/\RunI T P hv n ops r (σ.put o.dst v ms) K
def Compat(cl:List (Nat×Nat))(hv:List (Nat×List Nat))(ops:List Oper)(j i:Nat):Prop:=∀p o,ops[j]? =some p->ops[i]? =some o->Oper.apart ops.toArray p o=true/\(clash (clsH hv p) (clsH hv o)=false\/((aM7 cl p.op o.op=true\/fL7 cl p.op o.op=true\/fY1 p.op o.op=true)/\hvO hv p=false/\hvO hv o=false)\/dJ2 cl hv p o=true)
def front(B:bP T P)(s:∀o∈ops,∀d,o.dst=some d->Φ.keep d=none){z:List (Nat×Nat)}(A:∀o∈ops,aL7 T z o=true){i:Nat}{E:List Nat}:∀(u:List Nat) (σ:St),Real T Φ σ->Good z σ->(∀j∈u,Compat z hv ops j i)->RunI T P hv Φ.n ops (u++i::E) σ K->
 ∃o v ms,ops[i]? =some o/\Eff T P hv Φ.n ops o σ v ms/\RunI T P hv Φ.n ops (u++E) (σ.put o.dst v ms) K:=by
 intro u;induction u with
 |nil=>intro σ _ _ _ h;exact h
 |cons j r H=>
  intro σ f q C h;obtain⟨p,v,ms,t,e,h⟩:=h;obtain⟨o,v',g,D,c,h⟩:=H _ (dY4 B f (s p (QZ t)) e) (cG5 f.wf q (A p (QZ t)) e) (λk hk=>C k I9) h;obtain⟨l,b⟩:=C j Ad p o t D
  obtain⟨I,J,L⟩:Eff T P hv Φ.n ops o σ v' g/\Eff T P hv Φ.n ops p (σ.put o.dst v' g) v ms/\(σ.put p.dst v ms).put o.dst v' g=(σ.put o.dst v' g).put p.dst v ms:=by
   rcases b with b|⟨b,x,y⟩|b
   ·exact swap f.wf l b e c
   rcases b with b|b|b;exact dL0 x y f.wf q l b e c;exact gE0 x y f.wf (dY4 B f (s p (QZ t)) e).wf q l b e c;exact gJ0 x y f.wf l b e c;unfold dJ2 at b;rw[Uz,Uz,Uz]at b;rcases b with(b|b)|(b|b);rotate_left 2;exact eR7 f.wf l b e c;exact eO9 f.wf l b e c;split at b;rename_i F m;exact eM0 f.wf q l m b e c;cases b;split at b;rename_i F m;exact eS5 f.wf q l m b e c;cases b
  refine⟨o,v',g,D,I,p,v,ms,t,J,?_⟩;rw[<-L];exact h
theorem eA9 K:∀ l  k  σ,(∀j,l[j]? =ops[k+j]?)->Run T P (.drawn hv) Φ.n ops l σ K->RunI T P hv Φ.n ops (List.range' k l.length) σ K:=by
 intro l;induction l with
 |nil=>intro k σ _ h;exact h
 |cons o r f=>
  intro k σ c h;let⟨v,ms,e,h⟩:=eI5 h;have b:=c 0;refine⟨o,v,ms,b.symm,e,?_⟩;refine f (k+1) _ (λj=>?_) h;have:=c (j+1);grind
theorem bL5{ms}(h:(bW4 ms o).testBit j=true):∃e∈o.after,Region.binds .any e=true/\(j=e.on\/(ms.getD e.on 0).testBit j=true):=by
 unfold bW4 at h;rw[<-Array.foldl_toList]at h
 have gen:∀(l:List Edge) m ,(l.foldl (λm e=>if Region.binds .any e then m|||2^e.on|||ms.getD e.on 0 else m) m).testBit j=true->m.testBit j=true\/∃e∈l,Region.binds .any e=true/\(j=e.on\/(ms.getD e.on 0).testBit j=true):=by
  intro l;induction l with
  |nil=>intro m h;exact .inl h
  |cons e r f=>
   intro m h;rcases f _ h with h|⟨c,b,h⟩;grind;exact .inr ⟨c,by simp[b],h⟩
 grind
def cI3{L R:Nat->Prop}(s:∀i o,ops[i]? =some o->R i->∀e∈o.after,Region.binds .any e=true->L e.on)(f:∀i,L i->R i):
 ∀ l pre  ms,ops=pre++l->ms.length=pre.length->(∀k j,R k->(ms.getD k 0).testBit j=true->L j)->
  ∀k j,R k->((l.foldl (λms o=>ms++[bW4 ms o]) ms).getD k 0).testBit j=true->L j:=by
 intro l;induction l with
 |nil=>intro pre ms _ _ h;exact h
 |cons o r p=>
  intro pre ms c b h;refine p (pre++[o]) _ (by simp[c]) (by simp[b]) ?_;intro k j m q;by_cases e:k=ms.length;grind [bL5];refine h k j m ?_;rcases Sj k ms.length with n|g;grind;grind
def qX{b:List (Nat×Nat)}(h:oO T b hv ops=true):(∀o∈ops,aL7 T b o=true)/\∀(k:Nat) (o:Oper),ops[k]? =some o->(∀e∈o.after,Region.binds .any e=true->e.on<k)/\
 ∀(i:Nat) (p:Oper),i<k->ops[i]? =some p->((masks ops).getD k 0).testBit i=true\/(Oper.apart ops.toArray p o=true/\(clash (clsH hv p) (clsH hv o)=false\/((aM7 b p.op o.op=true\/fL7 b p.op o.op=true\/fY1 p.op o.op=true)/\hvO hv p=false/\hvO hv o=false)\/dJ2 b hv p o=true)):=by
 unfold oO at h;simp only[Uo,Ru]at h;refine⟨h.1,?_⟩;intro k o j;have c:=h.2 (o,k) (List.mem_zipIdx_iff_getElem?.2 j);simp only[Ru,Uo,Array.all_eq_true_iff_forall_mem]at c;refine⟨λe g f=>?_,λi p hi l=>?_⟩
 ·have:=c.1.1 e g
  simp[f]at this;exact this
 ·have:=c.2 (p,i) (List.mem_zipIdx_iff_getElem?.2 (by rw[List.getElem?_take_of_lt hi];exact l))
  simp only[Uz,Ru,UM]at this;grind
def rem(n:Nat)(listed:Array Bool):List Nat:=(List.range n).filter λi=> !listed.getD i true
theorem aF4:i∈rem n b↔i<n/\b.getD i true=false:=by
 simp[rem]
def cI0{c:Array Bool}(hi:i<c.size):(c.setIfInBounds i true).getD j b=if j=i then true else c.getD j b:=by
 rw[TU,TU,Array.getElem?_setIfInBounds];grind
def eP7(hi:i<b.size)(h:rem n b=c++i::f):rem n (b.setIfInBounds i true)=c++f:=by
 have k:rem n (b.setIfInBounds i true)=(rem n b).filter λj=> !decide (j=i):=by
  unfold rem;rw[List.filter_filter];apply List.filter_congr;intro j _;rw[cI0 hi];by_cases e:j=i<;>simp[e]
 have g:(rem n b).Nodup:=List.Pairwise.filter _ List.nodup_range;grind [List.nodup_append,List.filter_eq_self,Va]
def dQ0(hT:bP T P)(ro:Option Nat)(U:∀o∈ops,∀d,o.dst=some d->Φ.keep d=none){f:Array Oper}(hA:f.toList=ops){N:List (Nat×Nat)}(Z:oO T N hv ops=true){Q:Exit->Act->World->Prop}(hQ:∀c D w' G',K c->Inv T Φ c D w' G'->Q .normal D w'):
 ∀(g:Nat) (b:Array Bool) (σ:St) (a:Act) (w:World) (G:Gh),Inv T Φ σ a w G->Good N σ->b.size=ops.length->
  (∀i o,ops[i]? =some o->b.getD i true=true->∀e∈o.after,Region.binds .any e=true->b.getD e.on false=true)->
  (rem ops.length b).length<=g->RunI T P hv Φ.n ops (rem ops.length b) σ K->wpAnyIn (FW ro) 0 P .any f Q g b a w:=by
 have ag:f.size=ops.length:=by rw[<-hA];simp
 have A:∀i,f[i]? =ops[i]? :=λi=>by rw[<-hA,Ud]
 have l:∀(b:Array Bool) i,i∈Region.ready .any f b↔(i∈rem ops.length b/\∃o,ops[i]? =some o/\∀e∈o.after,Region.binds .any e=true->b.getD e.on false=true):=by
  intro b i;unfold Region.ready;rw[List.mem_filter,Tf,aF4,ag,A];cases h:ops[i]? with
  |none=>simp
  |some o=>
   simp only[Ru,UM,Tj,U9,Array.all_eq_true_iff_forall_mem];grind
 have ae:∀(b:Array Bool),b.size=ops.length->Region.ready .any f b=[]->rem ops.length b=[] :=by
  intro b y q;cases C:rem ops.length b with
  |nil=>rfl
  |cons i r=>
   exfalso;have hi:i∈rem ops.length b:=by rw[C];simp
   obtain⟨h1,h2⟩:=aF4.1 hi;have z:(rem ops.length b).Pairwise (·<·):=List.Pairwise.filter _ List.pairwise_lt_range;rw[C]at z
   have B:i∈Region.ready .any f b:=by
    rw[l];refine⟨hi,ops[i],by simp[h1],λe M J=>?_⟩;have am:=((qX Z).2 i ops[i] (by simp[h1])).1 e M J;cases Y:b.getD e.on false with
    |true=>rfl
    |false=>
     exfalso
     have hm:e.on∈rem ops.length b:=aF4.2 ⟨Aa,by
      have V:e.on<b.size:=Aa;simp[V]at Y⊢;exact Y⟩
     grind [S9]
   rw[q]at B;cases B
 intro g;induction g with
 |zero=>
  intro b σ a w G inv _ y ab m h;have h0:rem ops.length b=[] :=RS.1 Aa;rw[h0]at h;refine⟨?_,hQ σ a w G h inv⟩;simp_all [List.eq_nil_iff_forall_not_mem]
 |succ g ih=>
  intro b σ a w G inv O y ab m h;refine⟨λq=>?_,λi hi=>?_⟩;rw[ae b y q]at h;exact hQ σ a w G h inv;obtain⟨S,o,F,W⟩:=(l b i).1 hi;obtain⟨ai,aj⟩:=aF4.1 S;obtain⟨l1,l2,t⟩:=List.append_of_mem S;have z:(rem ops.length b).Pairwise (·<·):=List.Pairwise.filter _ List.pairwise_lt_range;rw[t]at z
  have E:∀j∈l1,Compat N hv ops j i:=by
   intro j hj p o' hp s;rw[F]at s;cases s;have ac:j<i:=(Si.1 z).2.2 j hj i Ad;rcases((qX Z).2 i o F).2 j p ac hp with J|J;exfalso;have ad:j∈rem ops.length b:=by rw[t];simp[hj]
   have ak:=(aF4.1 ad).2
   have:=cI3 (ops:=ops) (L:=λk=>b.getD k false=true) (R:=λk=>b.getD k false=true\/k=i) (by
    rintro k o' x (hR|rfl) e M aa;grind;rw[F]at x;cases x
    exact W e M aa) (λk x=> .inl x) ops [] [] rfl rfl Ad i j (.inr rfl) J
   grind;exact J
  rw[t]at h;obtain⟨o',v,ms,s,M,H⟩:=front hT U (qX Z).1 l1 σ ⟨a,w,G,inv⟩ O E h;rw[F]at s;cases s;have af:=eE8 (K:=λc=>RunI T P hv Φ.n ops (l1++l2) c K/\Good N c) M ⟨H,cG5 (Real.wf ⟨a,w,G,inv⟩) O ((qX Z).1 o (QZ F)) M⟩;have I:=bZ3 hT inv hA (U o (QZ F)) af (Q:=Q) ro;have X:=eP7 (n:=ops.length) (by omega:i<b.size) t
  have next:∀D w' c G',(RunI T P hv Φ.n ops (l1++l2) c K/\Good N c)->Inv T Φ c D w' G'->wpAnyIn (FW ro) 0 P .any f Q g (b.setIfInBounds i true) D w':=by
   intro D w' c G' x u;refine ih _ c D w' G' u x.2 (by simp[y]) ?_ ?_ ?_;intro k ok al Y e ah J;rw[cI0 Aa]at Y⊢;grind;rw[X];rw[t]at m;simp at m⊢;omega;rw[X];exact x.1
  unfold wpOpIn;rw[A,F];simp only;split;rename_i hw;rw[QU hw]at I;grind [Oper.wpIn_mono];rename_i hw;rw[Q9 hw]at I;obtain⟨G',c,x,u⟩:=I;exact⟨λ_ _=>trivial,next _ _ c G' x u⟩
def bC4(q:bP T P)(m:Option Nat)(s:P.follows .mixedOrders=true){ops:List Oper}{K:St->Prop}{b:Array Oper}(l:b.toList=ops)(g:∀o∈ops,∀d,o.dst=some d->Φ.keep d=none){k:List (Nat×Nat)}(t:oO T k hv ops=true)(f:Good k σ){Q:Exit->Act->World->Prop}(p:∀e j w' G',K e->Inv T Φ e j w' G'->Q .normal j w')(id:Nat)
 (inv:Inv T Φ σ a w G)(h:Run T P (.drawn hv) Φ.n ops ops σ K):(Code.region id b true).wpIn (FW m) 0 P Q a w:=by
 have c:b.size=ops.length:=by rw[<-l];simp
 refine wpIn_region_any s (dQ0 q m g l t p _ _ σ a _ G (inv.drew _) f (by simp[c]) ?_ ?_ ?_)
 ·intro i o hi r
  have:i<ops.length:=(QW.1 hi).1;simp[c,this]at r
 ·refine Rz (U0 _ _) ?_
  simp[c]
 ·have:rem ops.length (Array.replicate b.size false)=List.range' 0 ops.length:=by
   unfold rem;rw[List.range_eq_range'];simp_all
  grind [eA9]
end
section
variable{T:Tab}{P:Program}{Φ Φ' Φ2:Fr}{σ σ0:St}{a a0:Act}{w w' w0:World}{G G' G0:Gh}
def dP9{o:Oper}{d:Nat}(h:o∈l)(b:o.dst=some d):d∈dG4 l:=by
 induction l with
 |nil=>cases h
 |cons x r c=>
  show d∈(match x.dst with|some d=>d::dG4 r|none=>dG4 r);grind
def Fr.at(Φ:Fr)(w:World)(G:Gh):Fr:={Φ with w0:=w,given:=λb=>G.O b≠ .fz/\G.O b≠ .ext,F0:=λb=>G.O b= .fz}
structure Later(Φ Φ':Fr):Prop where
 size:Φ.w0.heap.size<=Φ'.w0.heap.size
 os:Φ'.w0.os=Φ.w0.os
 tape:Φ'.w0.tape=Φ.w0.tape
 output:Φ'.w0.output=Φ.w0.output
 given:∀b,Φ'.given b->Φ.mine b
 F0:∀b,Φ.F0 b->Φ'.F0 b
 fz:∀b,Φ'.F0 b->Φ.F0 b\/Φ.mine b
 frame:∀b,b<Φ.w0.heap.size->¬Φ.given b->Φ'.w0.heap[b]? =Φ.w0.heap[b]?
 n:Φ'.n=Φ.n
 arg:Φ'.arg=Φ.arg
 argb:Φ'.argb=Φ.argb
theorem Later.mine(h:Later Φ Φ')(c:Φ'.mine b):Φ.mine b:=by
 rcases c with c|c;exact .inl (Rz h.size c);exact h.given b c
def Later.trans(h:Later Φ Φ')(h2:Later Φ' Φ2):Later Φ Φ2 where
 size:=Rz h.size h2.size
 os:=h2.os.trans h.os
 tape:=h2.tape.trans h.tape
 output:=h2.output.trans h.output
 given b hb:=h.mine (h2.given b hb)
 F0 b hb:=h2.F0 b (h.F0 b hb)
 fz b hb:=by
  rcases h2.fz b hb with q|q;exact h.fz b q;exact .inr (h.mine q)
 frame b hb hg:=by
  have hg':¬Φ'.given b:=λq=>by
   rcases h.given b q with q|q;omega;exact hg q
  exact(h2.frame b (SS hb h.size) hg').trans (h.frame b hb hg)
 n:=h2.n.trans h.n
 arg:=h2.arg.trans h.arg
 argb:=h2.argb.trans h.argb
def Later.of(h1:Φ'.w0=Φ.w0)(h2:Φ'.given=Φ.given)(h3:Φ'.F0=Φ.F0)(h4:Φ'.n=Φ.n)(h5:Φ'.arg=Φ.arg)(h6:Φ'.argb=Φ.argb):Later Φ Φ' where
 size:=by rw[h1];exact Rf _
 os:=by rw[h1]
 tape:=by rw[h1]
 output:=by rw[h1]
 given b hb:= .inr (by rw[<-h2];exact hb)
 F0 b hb:=by rw[h3];exact hb
 fz b hb:= .inl (by rw[<-h3];exact hb)
 frame b _ _:=by rw[h1]
 n:=h4
 arg:=h5
 argb:=h6
structure Quiet(Φ:Fr)(w w':World)(G:Gh):Prop where
 size:w.heap.size<=w'.heap.size
 same:∀b,G.O b≠ .ext->w'.heap[b]? =w.heap[b]?
 old:∀b,b<Φ.w0.heap.size->w'.heap[b]? =w.heap[b]?
 os:w'.os=w.os
 tape:w'.tape=w.tape
 output:w'.output=w.output
def Inv.quiet(inv:Inv T Φ σ a w G)(q:Quiet Φ w w' G):Inv T Φ σ a w' G:=
 inv.change rfl ⟨λ_ h=>h,λb h=>q.same b Fv⟩ (λ_ _=>rfl) (λ_ _ _=>rfl) (λ_ h=>h) (λ_ _ h=>h)
  (λi cs hi=> .inl ⟨hi,(inv.box i cs hi).choose_spec.choose_spec.2.2,q.same _ (by rw[(inv.box i cs hi).choose_spec.choose_spec.2.2];simp)⟩)
  (λk en c=> .inl ⟨c,λb hb=>⟨hb,q.same b AV⟩⟩)
  (λb hb=>SS (inv.tag b hb) q.size) (λ_=> .inl rfl)
  (λb=>by
   rcases Sj b Φ.w0.heap.size with h|h;exact .inl (q.old b h)
   exact .inr (.inl h))
  q.size q.os q.tape q.output
theorem Inv.mine(inv:Inv T Φ σ a w G)(h:G.O b≠ .fz)(d:G.O b≠ .ext):Φ.mine b:=by
 cases c:G.O b with
 |ext=>exact absurd c d
 |fz=>exact absurd c h
 |bx i=>exact inv.mineB b i c
 |ar k=>exact inv.mineA b k c
def Inv.up(inv:Inv T Φ σ a w G):Inv T (Φ.at w G) σ a w G where
 nd:=inv.nd
 kp:=inv.kp
 sz:=inv.sz
 env:=inv.env
 wfE:=inv.wfE
 box:=inv.box
 wfB:=inv.wfB
 arr:=inv.arr
 wfA:=inv.wfA
 tag:=inv.tag
 mineB b i h:= .inr ⟨Fv,Fv⟩
 mineA b k h:= .inr ⟨Fv,Fv⟩
 fzm b h:= .inl h
 F0 b h:=h
 frame b _ _:=rfl
 size:=Rf _
 os:=rfl
 tape:=rfl
 output:=rfl
 args:=inv.args
 lay:=by
  refine⟨T.lay_mono (λb hb=>⟨inv.F0 b hb,inv.frame b (inv.lay.2 b hb).1 (inv.lay.2 b hb).2⟩) inv.lay.1,λb hb=>⟨inv.tag b (by rw[show G.O b= .fz from hb];simp),λh=>h.1 hb⟩⟩
 argb:=inv.argb
def Inv.aF0(inv:Inv T Φ σ a w G):Later Φ (Φ.at w G)where
 size:=inv.size
 os:=inv.os
 tape:=inv.tape
 output:=inv.output
 given b hb:=inv.mine hb.1 hb.2
 F0 b hb:=inv.F0 b hb
 fz b hb:=inv.fzm b hb
 frame b hb hg:=inv.frame b hb hg
 n:=rfl
 arg:=rfl
 argb:=rfl
def Inv.down(inv0:Inv T Φ σ0 a0 w0 G0)(hl:Later Φ Φ')(inv:Inv T Φ' σ a w G)(h1:Φ2.w0=Φ.w0)(h2:Φ2.given=Φ.given)(h3:Φ2.F0=Φ.F0)(h4:Φ2.n=Φ.n)(h5:Φ2.arg=Φ.arg)(h6:Φ2.argb=Φ.argb)(h7:Φ2.ds=Φ'.ds)(h8:Φ2.keep=Φ'.keep):Inv T Φ2 σ a w G where
 nd:=by rw[h7];exact inv.nd
 kp:=by rw[h8];exact inv.kp
 sz:=by rw[h4,<-hl.n];exact inv.sz
 env:=inv.env
 wfE:=inv.wfE
 box:=inv.box
 wfB:=inv.wfB
 arr:=inv.arr
 wfA:=inv.wfA
 tag:=inv.tag
 mineB b i h:=by
  have:=hl.mine (inv.mineB b i h);unfold Fr.mine at*;rw[h1,h2];exact this
 mineA b k h:=by
  have:=hl.mine (inv.mineA b k h);unfold Fr.mine at*;rw[h1,h2];exact this
 fzm b h:=by
  have:Φ.F0 b\/Φ.mine b:=by
   rcases inv.fzm b h with q|q;exact hl.fz b q;exact .inr (hl.mine q)
  unfold Fr.mine at*;rw[h1,h2,h3];exact this
 F0 b h:=inv.F0 b (hl.F0 b (by rw[<-h3];exact h))
 frame b hb hg:=by
  rw[h1]at hb⊢;rw[h2]at hg
  have hg':¬Φ'.given b:=λq=>by
   rcases hl.given b q with q|q;omega;exact hg q
  exact(inv.frame b (SS hb hl.size) hg').trans (hl.frame b hb hg)
 size:=by rw[h1];exact Rz hl.size inv.size
 os:=by rw[h1];exact inv.os.trans hl.os
 tape:=by rw[h1];exact inv.tape.trans hl.tape
 output:=by rw[h1];exact inv.output.trans hl.output
 args:=by rw[h5,<-hl.arg];exact inv.args
 lay:=by rw[h1,h2,h3];exact inv0.lay
 argb:=by rw[h6,<-hl.argb];exact inv.argb
def Inv.nobody(inv:Inv T Φ σ a w G)(f:b<Φ.w0.heap.size)(e:¬Φ.given b)(g:¬Φ.F0 b):w.heap[b]? =Φ.w0.heap[b]? /\G.O b= .ext:=by
 have d:¬Φ.mine b:=λh=>by
  rcases h with h|h;omega;exact e h
 refine⟨inv.frame b f e,?_⟩;cases c:G.O b with
 |ext=>rfl
 |fz=>
  rcases inv.fzm b c with h|h;exact absurd h g;exact absurd h d
 |bx i=>exact absurd (inv.mineB b i c) d
 |ar k=>exact absurd (inv.mineA b k c) d
def Inv.mP(inv:Inv T Φ σ a w G)(d:Φ.w0=w0)(e:Φ.given=λb=>G0.O b≠ .fz/\G0.O b≠ .ext)(f:Φ.F0=λb=>G0.O b= .fz)(g:b<w0.heap.size)(c:G0.O b= .ext):w.heap[b]? =w0.heap[b]? /\G.O b= .ext:=by
 have:=inv.nobody (b:=b) (by rw[d];exact g) (by rw[e];exact λh=>h.2 c) (by rw[f];exact λh=>by rw[show G0.O b= .fz from h]at c;cases c);rw[d]at this;exact this
def mark(D:Nat):Deferred:={target:= .collected D,args:= #[]}
def Marks(w0 w:World)(G:Gh)(ms:List Deferred):Prop:=
 ∃Ds:List Nat,ms=Ds.map mark/\Ds.Nodup/\∀D∈Ds,w0.heap.size<=D/\w.heap[D]? =some (.deferred (some []))/\G.O D= .ext
theorem Marks.nil w0 w G:Marks w0 w G [] :=⟨[],rfl,List.nodup_nil,λD h=>Ah⟩
def Lift(T:Tab)(Φ:Fr)(Q:Exit->St->Prop)(e:Exit)(a:Act)(w:World):Prop:=∃ms σ G,Q e σ/\Inv T {Φ with ds:=ms++Φ.ds} σ a w G/\Marks Φ.w0 w G ms
def Lift.of(h:Q e σ)(inv:Inv T Φ σ a w G):Lift T Φ Q e a w:=⟨[],σ,G,h,inv,Marks.nil _ _ _⟩
def Lift.back(b:Inv T {Φ with ds:=d++Φ.ds} σ0 a0 w0 G0)(mk:Marks Φ.w0 w0 G0 d)
 (h:Lift T (Fr.at {Φ with ds:=d++Φ.ds} w0 G0) Q e a w):Lift T Φ Q e a w:=by
 let⟨f,σ,G,t,inv,Ds2,r,k,o⟩:=h;let⟨m,q,j,n⟩:=mk;have s:Later {Φ with ds:=d++Φ.ds} {(Fr.at {Φ with ds:=d++Φ.ds} w0 G0)with ds:=f++(d++Φ.ds)}:=b.aF0.trans (Later.of rfl rfl rfl rfl rfl rfl);have p:=λD c=>(Ry.1 (n D c).2.1).1;refine⟨f++d,σ,G,t,b.down s inv rfl rfl rfl rfl rfl rfl (Tn _ _ _) rfl,Ds2++m,by rw[q,r,RH],?_,λD c=>?_⟩
 ·refine List.nodup_append.2 ⟨k,j,λx u y v=>?_⟩
  have g:w0.heap.size<=x:=(o x u).1;have i:=p y v;omega
 ·rcases Rh.1 c with c|c
  ·let⟨g,i,l⟩:=o D c
   exact⟨Rz b.size g,i,l⟩
  ·let⟨g,i,l⟩:=n D c
   let⟨z,A⟩:=inv.mP (w0:=w0) (G0:=G0) rfl rfl rfl (p D c) l;exact⟨g,z.trans i,A⟩
def dJ8:∀ c  b  vs  σ  a,c.length=b.length->vs.length=b.length->(∀p∈c,p<Φ.n/\Φ.keep p=none)->
 (∀(j:Nat) v y,vs[j]? =some v->b[j]? =some y->y.pure/\Rv w G v y)->Inv T Φ σ a w G->Inv T Φ ⟨cM2 c b σ.env,σ.bx,σ.ar⟩ {a with tmps:=(c.zip vs).foldl (λt (p,v)=>t.setIfInBounds p v) a.tmps} w G:=by
 intro c;induction c with
 |nil=>intro b vs σ a _ _ _ _ inv;exact inv
 |cons p c m=>
  intro b vs σ a g i k l inv;cases b with
  |nil=>simp at g
  |cons y b=>
   cases vs with
   |nil=>simp at i
   |cons v vs=>
    let⟨o,q⟩:=l 0 v y rfl rfl;have f:=k p Ad;have e:=inv.bA3 (d:=p) ⟨f.1,f.2⟩ q (V.pure.ok o _ _);exact m b vs (σ.set p y) (a.put (some p) v) (by simpa using g) (by simpa using i) (λp f=>k p (by simp[f])) (λj v y hv hy=>l (j+1) v y BH Dj) e
def Inv.outer(inv0:Inv T Φ σ0 a0 w0 G0)(h1:Φ2.w0=Φ.w0)(h2:Φ2.given=Φ.given)(h3:Φ2.F0=Φ.F0)(h4:Φ2.n=Φ.n)(h5:Φ2.arg=Φ.arg)(h6:Φ2.argb=Φ.argb)
 (hk:∀s,s∉wr->Φ2.keep s=some (a0.tmps.getD s undef))(inv:Inv T Φ2 σ a w G):Inv T Φ (sJ wr σ) a0 w G where
 nd:=inv0.nd
 kp:=inv0.kp
 sz:=inv0.sz
 env s:=by
  show Rv w G (a0.tmps.getD s undef) (cond (memR s wr) .bot (σ.env s));cases hm:memR s wr with
  |true=>exact .bot _
  |false=>
   have:s∉wr:=λh=>by rw[pM.2 h]at hm;cases hm
   have e:=inv.kp s _ (hk s this);rw[<-e];exact inv.env s
 wfE s:=by
  show(cond (memR s wr) V.bot (σ.env s)).ok _ _;cases memR s wr with
  |true=>simp[TD,V.ok]
  |false=>exact inv.wfE s
 box:=inv.box
 wfB:=inv.wfB
 arr:=inv.arr
 wfA:=inv.wfA
 tag:=inv.tag
 mineB b i h:=by have:=inv.mineB b i h;unfold Fr.mine at*;rw[h1,h2]at this;exact this
 mineA b k h:=by have:=inv.mineA b k h;unfold Fr.mine at*;rw[h1,h2]at this;exact this
 fzm b h:=by have:=inv.fzm b h;unfold Fr.mine at*;rw[h1,h2,h3]at this;exact this
 F0 b h:=inv.F0 b (by rw[h3];exact h)
 frame b hb hg:=by have:=inv.frame b (by rw[h1];exact hb) (by rw[h2];exact hg);rw[h1]at this;exact this
 size:=by have:=inv.size;rw[h1]at this;exact this
 os:=by have:=inv.os;rw[h1]at this;exact this
 tape:=by have:=inv.tape;rw[h1]at this;exact this
 output:=by have:=inv.output;rw[h1]at this;exact this
 args:=by have:=inv.args;rw[h5]at this;exact this
 lay:=inv0.lay
 argb:=by have:=inv.argb;rw[h6]at this;exact this
def Inv.aQ1(inv:Inv T Φ σ a w G) ds(h1:Φ2.w0=Φ.w0)(h2:Φ2.given=Φ.given)(h3:Φ2.F0=Φ.F0)(h4:Φ2.n=Φ.n)(h5:Φ2.arg=Φ.arg)(h6:Φ2.argb=Φ.argb)(h7:Φ2.ds=ds)(h8:∀s v,Φ2.keep s=some v->a.tmps.getD s undef=v):Inv T Φ2 σ {a with defers:=ds} w G where
 nd:=h7.symm
 kp:=h8
 sz:=by rw[h4];exact inv.sz
 env:=inv.env
 wfE:=inv.wfE
 box:=inv.box
 wfB:=inv.wfB
 arr:=inv.arr
 wfA:=inv.wfA
 tag:=inv.tag
 mineB b i h:=by have:=inv.mineB b i h;unfold Fr.mine at*;rw[h1,h2];exact this
 mineA b k h:=by have:=inv.mineA b k h;unfold Fr.mine at*;rw[h1,h2];exact this
 fzm b h:=by have:=inv.fzm b h;unfold Fr.mine at*;rw[h1,h2,h3];exact this
 F0 b h:=inv.F0 b (by rw[<-h3];exact h)
 frame b hb hg:=by rw[h1]at hb⊢;rw[h2]at hg;exact inv.frame b hb hg
 size:=by rw[h1];exact inv.size
 os:=by rw[h1];exact inv.os
 tape:=by rw[h1];exact inv.tape
 output:=by rw[h1];exact inv.output
 args:=by rw[h5];exact inv.args
 lay:=by rw[h1,h2,h3];exact inv.lay
 argb:=by rw[h6];exact inv.argb
def aF9(hl:G.O l= .ext)(h0:Φ.w0.heap.size<=l):Quiet Φ w (w.putObj l o) G where
 size:=by simp[World.putObj]
 same b hb:=World.putObj_heap_other (by rintro rfl;exact hb hl)
 old b hb:=World.putObj_heap_other Aa
 os:=rfl
 tape:=rfl
 output:=rfl
theorem Le.out(h:Le T σ σ0)(inv:Inv T Φ σ a w G):∃G',Inv T Φ σ0 a w G':=by unfold Le at h;exact h Φ a w G inv
theorem dV2{b:Array Nat}{vs}{t:Array Value}:(b.zip vs).foldl (λt (p,v)=>t.setIfInBounds p v) t=(b.toList.zip vs.toList).foldl (λt (p,v)=>t.setIfInBounds p v) t:=by
 rw[<-Array.foldl_toList,Array.toList_zip]
def aV3 o(inv:Inv T Φ σ a w G):Quiet Φ w (w.alloc o) G where
 size:=Ad
 same b hb:=Uw w _ (inv.tag b hb)
 old b hb:=Uw w _ (SS hb inv.size)
 os:=rfl
 tape:=rfl
 output:=rfl
def cI6{F:Array Nat}(hn:Φ.n=n)
 (b8:∀(Φ:Fr) (ro:Option Nat) (σ:St) (a:Act) (w:World) (G:Gh) (Q:Exit->St->Prop),Φ.n=n->(∀d∈dstsOf x,Φ.keep d=none)->Inv T Φ σ a w G->nH T P n x σ Q->x.wpIn (FW ro) 0 P (Lift T Φ Q) a w)
 (b9:∀(Φ:Fr) (ro:Option Nat) (σ:St) (a:Act) (w:World) (G:Gh) (Q:Exit->St->Prop),Φ.n=n->(∀d∈dstsOf y,Φ.keep d=none)->Inv T Φ σ a w G->nH T P n y σ Q->y.wpIn (FW ro) 0 P (Lift T Φ Q) a w)
 (b0:∀p∈F.toList,p<n)(hk:∀d∈F.toList++(dstsOf x++dstsOf y),Φ.keep d=none)(ax:allR V.still R=true)
 (inv:Inv T Φ σ a w G)(h:aO0 T P f g R F.toList (F.toList++(dstsOf x++dstsOf y)) (nH T P n x) (nH T P n y) σ Q):(Code.rangeFunc f F x y).wpIn (FW none) 0 P (Lift T Φ Q) a w:=by
 let⟨ca,ad,bd,A,st,I,⟨p0,bz,h0,hf⟩,aj,a7⟩:=h.out;generalize hwr:F.toList++(dstsOf x++dstsOf y)=wr at*;have b4:∀p∈F.toList,p∈wr:=λp hp=>Iq;have b5:∀p∈dstsOf x,p∈wr:=λp hp=>Iq;have b6:∀p∈dstsOf y,p∈wr:=λp hp=>Iq;let⟨G0,inv0⟩:=bz.out inv;have au:=inv0.ev f;rw[hf]at au
 let⟨lb,e1,e2,e3⟩:=au.1.fn_cap (by
  cases R with
  |nil=>rfl
  |cons x r=>cases x with
   |ap e l=>have:=dY.1 ax (.ap e l) (SQ ..);cases this
   |_=>rfl) (λcs he=>by subst he;have:=dY.1 ax (.own 0 []) (SQ ..);cases this)
 have a6:∀(j:Nat) y,R[j]? =some y->y.pure:=λj y hy=>by
  have h2:=au.2;simp[V.ok]at h2;exact bL0 (dY.1 ax y (QZ hy)) (aH.1 h2 y (QZ hy))
 refine wpIn_rangeFunc ?_;intro fn av;obtain⟨E,K⟩:∃E:LoopState->Option Code->Loop,E=λst pe=> {state:=st,pending:=pe,fn,tmps:=a.tmps,params:=F,assign:=x,body:=y,defers:=w.heap.size}:=⟨_,rfl⟩;obtain⟨U,X⟩:∃U,(w.alloc (.deferred (some []))).alloc (.loop (E .ready none))=U:=⟨_,rfl⟩;obtain⟨l,hl⟩:∃l,l=w.heap.size+1:=⟨_,rfl⟩;obtain⟨D,hD⟩:∃D,D=w.heap.size:=⟨_,rfl⟩;have aq:D≠l:=Aa;have cf:U.heap.size=w.heap.size+2:=by rw[<-X];simp
 have br:U.heap[l]? =some (.loop (E .ready none)):=by
  rw[<-X,hl];have:=World.alloc_heap_new (w.alloc (.deferred (some []))) (.loop (E .ready none));rwa [World.size_alloc]at this
 have bp:U.heap[D]? =some (.deferred (some [])):=by
  rw[<-X,hD];exact(Uw _ _ Ad).trans (World.alloc_heap_new w _)
 have aw:Φ.w0.heap.size<=l:=by have:=inv.size;omega
 have bn:Φ.w0.heap.size<=D:=by have:=inv.size;omega
 have ae:=inv0.quiet (aV3 (.deferred (some [])) inv0);have an:Inv T Φ (st p0) a U G0:=by rw[<-X];exact ae.quiet (aV3 _ ae)
 have ba:Keep w U G0 G0:=⟨λ_ h=>h,λb hb=>by
  have bt:=inv0.tag b AV;rw[<-X];exact(Uw _ _ AY).trans (Uw w _ bt)⟩
 have cd:G0.O l= .ext:=inv0.ext_size Aa;have cc:G0.O D= .ext:=inv0.ext_size Aa;have C:=ad.1
 have eg:∀args w,(callFunc g args).run P w= .ok (.enter g args) w:=by
  intro args w;unfold callable at C;split at C;rename_i fn av;simp[Ru,bne_iff_ne]at C;have hb:fn.body≠none:=by intro h;rw[h]at C;simp at C
  simp[callFunc,av,hb,C.2];cases C
 refine⟨l,[mark D],U,{target:= .fn (.func g) lb,args:= #[.func (.yield l) #[] #[]]},U,g, #[.func (.yield l) #[] #[]] ++lb,U,?_,?_,?_,?_,λhh=>ES,?_⟩
 ·rw[<-X,K,hl,hD];exact run_enterLoop_outer _ _ _ _ _
 ·simp[resolve,e1]
  simp[go_sem]
 ·intro f' _;trivial
 ·simp[invoke,go_sem,eg]
 refine(ad.2 U G0 lb l e2 (λb hb=>by have:=inv0.tag b hb;omega) (λj v y hv hy=>⟨a6 j y hy,(e3 j v y hv hy).aW ba (a6 j y hy)⟩) an.up.lay.1
  (λk W G'=>∃p,I k p/\Inv T Φ (st p) a W G'/\W.heap[l]? =some (.loop (E .ready none))/\W.heap[D]? =some (.deferred (some []))/\G'.O l= .ext/\G'.O D= .ext)
  (λW G'=>∃c e J,((c= .ret/\e= .ret)\/∃i,c= .exit i/\e= .exit i)/\Q e J/\Inv T Φ J a W G'/\W.heap[l]? =some (.loop (E .done (some c)))/\W.heap[D]? =some (.deferred (some []))/\G'.O l= .ext/\G'.O D= .ext)
  ?_ ?_ ?_ ?_ ⟨p0,h0,an,br,bp,cd,cc⟩).mono ?_
 ·rintro k W W' G' ⟨p,q1,q2,q3,q4,q5,q6⟩ S hb ho ht hu
  have ac:=(Ry.1 q3).1;refine⟨p,q1,q2.quiet ⟨S,λb h=>hb b (q2.tag b h) (.inl h),λb h=>hb b (SS h q2.size) (.inr (by have:=inv.size;omega)),ho,ht,hu⟩,?_,?_,q5,q6⟩
  ·rw[hb l ac (.inr Aa)];exact q3
  ·rw[hb D Aa (.inr Aa)];exact q4
 ·rintro W W' G' ⟨c,e,J,q0,q1,q2,q3,q4,q5,q6⟩ S hb ho ht hu
  have ac:=(Ry.1 q3).1;refine⟨c,e,J,q0,q1,q2.quiet ⟨S,λb h=>hb b (q2.tag b h) (.inl h),λb h=>hb b (SS h q2.size) (.inr (by have:=inv.size;omega)),ho,ht,hu⟩,?_,?_,q5,q6⟩
  ·rw[hb l ac (.inr Aa)];exact q3
  ·rw[hb D Aa (.inr Aa)];exact q4
 ·rintro k W G' G'' ⟨p,q1,q2,q3,q4,q5,q6⟩ b7 bs hO
  have a4:∀b,b<U.heap.size->G''.O b=G'.O b:=λb hb=>by
   rcases hO b with h|h;exact h;omega
  refine⟨p,q1,?_,q3,q4,by rw[a4 l (by omega)];exact q5,by rw[a4 D (by omega)];exact q6⟩
  have keepO:∀b,G'.O b≠ .ext->G''.O b=G'.O b:=λb hb=>by
   rcases hO b with h|h;exact h;exact absurd h.2.2.1 hb
  refine q2.change rfl ⟨λb hb=>GN,λ_ _=>rfl⟩ (λi _=>by rw[b7]) (λi g _=>by rw[bs]) (λ_ h=>h) (λ_ _ h=>h)
   (λi cs hi=> .inl ⟨hi,?_,rfl⟩) (λk en hk=> .inl ⟨hk,λb hb=>⟨GN,rfl⟩⟩) (λb hb=>?_) (λb=>?_) (λb=> .inl rfl) (Rf _) rfl rfl rfl
  ·have:=(q2.box i cs hi).choose_spec.choose_spec.2.2
   rw[keepO _ (by rw[this];simp)];exact this
  ·rcases hO b with h|h
   ·rw[h]at hb;exact q2.tag b hb
   ·exact h.2.1
  ·rcases hO b with h|h
   ·exact .inl h
   ·exact .inr (.inr (.inl (by have:=inv.size;omega)))
 ·
  rintro k W G' vs it ⟨p,hI,u,hL,hK,ol,oD⟩ a9 bi b3;have ac:=(Ry.1 hL).1;have a8:=bd it (QZ a9);have hy:=run_yield (P:=P) (args:=vs) hL (by rw[K];show vs.size=F.size;rw[bi,a8];simp);rw[K]at hy;refine⟨fn,_,x,y,hy,roundIn_of_wpIn av ?_⟩;show x.wpIn (FW (some l)) 0 P _ _ _;obtain⟨o,hΦr⟩:∃o,o={(Φ.at W G')with ds:=[],keep:=λs=> @ite _ (s∈wr) (Classical.propDecidable _) none (some (a.tmps.getD s undef))}:=⟨_,rfl⟩;have ai:∀d∈wr,o.keep d=none:=λd hd=>by rw[hΦr];exact QU hd
  have ab:∀d,d∉wr->o.keep d=some (a.tmps.getD d undef):=λd hd=>by rw[hΦr];exact Q9 hd
  have bh:o.n=n:=by rw[hΦr];exact hn
  have bl:Inv T o ⟨cM2 F.toList it (st p).env,(st p).bx,(st p).ar⟩ {tmps:=(F.zip vs).foldl (λt (p,v)=>t.setIfInBounds p v) a.tmps,defers:=[]} W G':=by
   rw[dV2]
   have:=u.up.aQ1 (Φ2:=o) [] Fp Fp Fp Fp Fp Fp Fp (λs v S=>by
    by_cases hm:s∈wr;rw[ai s hm]at S;cases S
    rw[ab s hm]at S;exact UG S)
   exact dJ8 F.toList it vs.toList (st p) {a with defers:=[]} a8.symm (by simpa using bi) (λp hp=>⟨by rw[bh];exact b0 p hp,ai p (b4 p hp)⟩) (λj v y hv hy=>b3 j v y BH hy) this
  refine Ug (b8 o (some l) _ _ W G' _ bh (λd hd=>ai d (b5 d hd)) bl (aj k p it hI a9)) ?_;rintro e a1 w1 ⟨N,ak,G1,Y,B,cg⟩;cases e with
  |normal=>
   let⟨rl,gl⟩:=B.mP (w0:=W) (G0:=G') EL EL EL ac ol;let⟨rD,gD⟩:=B.mP (w0:=W) (G0:=G') EL EL EL Aa oD;rw[hL]at rl;rw[hK]at rD;obtain⟨H,L⟩:∃H,H=w1.putObj l (.loop {E .ready none with state:= .busy}):=⟨_,rfl⟩;have be:=(Ry.1 rl).1;refine⟨H,by rw[L];exact run_beginRound rl (by rw[K]),?_⟩;show y.wpIn (FW (some l)) 0 P _ _ _;have bb:Later Φ {o with ds:=N++o.ds}:=u.aF0.trans (Later.of Fp Fp Fp Fp Fp Fp);have bk:Inv T {Φ with ds:=N++o.ds,keep:=o.keep} ak a1 w1 G1:=u.down bb B rfl rfl rfl rfl rfl rfl rfl rfl;have af:Inv T {Φ with ds:=N++o.ds,keep:=o.keep} ak a1 H G1:=by rw[L];exact bk.quiet (aF9 gl aw)
   have ah:=u.outer (Φ2:={Φ with ds:=N++o.ds,keep:=o.keep}) rfl rfl rfl rfl rfl rfl (λs S=>ab s S) af;have az:H.heap[l]? =some (.loop {E .ready none with state:= .busy}):=by rw[L];exact World.putObj_heap_same be
   have bf:=(Ry.1 az).1;have bq:H.heap[D]? =some (.deferred (some [])):=by rw[L];exact(World.putObj_heap_other aq).trans rD
   have am:∀b,b≠l->H.heap[b]? =w1.heap[b]? :=λb hb=>by rw[L];exact World.putObj_heap_other hb
   refine Ug (b9 (Fr.at {Φ with ds:=N++o.ds,keep:=o.keep} H G1) (some l) ak a1 H G1 _ hn (λd hd=>ai d (b6 d hd)) af.up Y) ?_;rintro e a2 w3 ⟨cb,J,G2,Z,invC,ch⟩;have ag:=ah.up.outer (Φ2:={(Fr.at {Φ with ds:=N++o.ds,keep:=o.keep} H G1)with ds:=cb++(N++o.ds)}) rfl rfl rfl rfl rfl rfl (λs S=>ab s S) invC
   have ao:∀ m  al  G3 ,Inv T (Φ.at H G1) al a w3 G3->∃M,(Instr.endRound l m).run P w3= .ok (.bool m.isNone) M/\Inv T Φ al a M G3/\M.heap[l]? =some (.loop (E (if m.isNone then .ready else .done) m))/\M.heap[D]? =some (.deferred (some []))/\G3.O l= .ext/\G3.O D= .ext/\xN U W M G' G3:=by
    intro m al G3 z;let⟨sl,tl⟩:=z.mP (w0:=H) (G0:=G1) rfl rfl rfl bf gl;let⟨sD,tD⟩:=z.mP (w0:=H) (G0:=G1) rfl rfl rfl Aa gD;rw[az]at sl;rw[bq]at sD;have bg:=(Ry.1 sl).1;have hr:=run_endRound (P:=P) m sl;have b2:({({E .ready none with state:= .busy}:Loop)with state:=if m.isNone then .ready else .done,pending:=m}:Loop)=E (if m.isNone then .ready else .done) m:=by rw[K]
    have b1:(Instr.endRound l m).run P w3= .ok (.bool m.isNone) (w3.putObj l (.loop (E (if m.isNone then .ready else .done) m))):=by rw[<-b2];exact hr
    have bj:=ah.down ah.aF0 z rfl rfl rfl rfl rfl rfl rfl rfl;have ce:W.heap.size<=w1.heap.size/\w1.heap.size=H.heap.size/\H.heap.size<=w3.heap.size:=⟨by have:=B.size;rw[hΦr]at this;exact this,by rw[L];simp[World.putObj],z.size⟩;refine⟨_,b1,bj.quiet (aF9 tl aw),World.putObj_heap_same bg,(World.putObj_heap_other aq).trans sD,tl,tD,⟨⟨λb hb=>?_,λb hb=>?_⟩,?_,λb a5 bu bv=>?_,λb hb=>?_,?_,?_,?_⟩⟩;exact z.F0 b (B.F0 b (by rw[hΦr];exact hb));have aa:b≠l:=by rintro rfl;rw[ol]at hb;cases hb
    have bw:=u.tag b AV
    have f1:w1.heap[b]? =W.heap[b]? :=by
     have:=B.frame b (by rw[hΦr];exact bw) (by rw[hΦr];exact λq=>q.1 hb);rw[hΦr]at this;exact this
    have a5:=B.F0 b (by rw[hΦr];exact hb);have f2:w3.heap[b]? =H.heap[b]? :=z.frame b (by show b<H.heap.size;omega) (λq=>q.1 a5);rw[World.putObj_heap_other aa,f2,am b aa,f1];simp[World.putObj,Array.size_setIfInBounds];omega;have aa:b≠l:=by omega
    let⟨f1,g1⟩:=B.mP (w0:=W) (G0:=G') EL EL EL bu bv;let⟨f2,g2⟩:=z.mP (w0:=H) (G0:=G1) rfl rfl rfl Aa g1;exact⟨by rw[World.putObj_heap_other aa,f2,am b aa,f1],g2⟩;have:=z.tag b hb;simp[World.putObj,Array.size_setIfInBounds];exact this;have a1:=z.os;have a2:H.os=w1.os:=by rw[L];rfl
    have a3:w1.os=W.os:=by have:=B.os;rw[hΦr]at this;exact this
    exact a1.trans (a2.trans a3);have a1:=z.tape;have a2:H.tape=w1.tape:=by rw[L];rfl
    have a3:w1.tape=W.tape:=by have:=B.tape;rw[hΦr]at this;exact this
    exact a1.trans (a2.trans a3);have a1:=z.output;have a2:H.output=w1.output:=by rw[L];rfl
    have a3:w1.output=W.output:=by have:=B.output;rw[hΦr]at this;exact this
    exact a1.trans (a2.trans a3)
   cases e with
   |normal=>
    let⟨p',bc,bo⟩:=Z;let⟨G3,z⟩:=bc.out ag;let⟨M,r1,r2,r3,r4,r5,r6,r7⟩:=ao none _ G3 z;exact⟨_,M,r1, .inl ⟨rfl,G3,⟨p',bo,r2,r3,r4,r5,r6⟩,r7⟩⟩
   |ret=>
    let⟨M,r1,r2,r3,r4,r5,r6,r7⟩:=ao (some .ret) _ G2 ag;exact⟨_,M,r1, .inr ⟨rfl,G2,⟨.ret, .ret,_, .inl ⟨rfl,rfl⟩,Z,r2,r3,r4,r5,r6⟩,r7⟩⟩
   |exit id=>
    let⟨M,r1,r2,r3,r4,r5,r6,r7⟩:=ao (some (.exit id)) _ G2 ag;exact⟨_,M,r1, .inr ⟨rfl,G2,⟨.exit id, .exit id,_, .inr ⟨id,rfl,rfl⟩,Z,r2,r3,r4,r5,r6⟩,r7⟩⟩
   |goto t=>exact(Z:False).elim
   |panic c=>exact(Z:False).elim
   |outgrown=>exact(Z:False).elim
  |ret=>exact(Y:False).elim
  |exit id=>exact(Y:False).elim
  |goto t=>exact(Y:False).elim
  |panic c=>exact(Y:False).elim
  |outgrown=>exact(Y:False).elim
 ·
  have mk:∀{W}{G'}{J}{pe}{ay},W.heap[l]? =some (.loop (E ay pe))->ay≠ .busy->W.heap[D]? =some (.deferred (some []))->G'.O l= .ext->G'.O D= .ext->Inv T Φ J a W G'->
   ∃M,(Instr.endLoop l).run P W= .ok pe M/\Inv T {Φ with ds:=[mark D] ++Φ.ds} J {a with defers:=[mark D] ++a.defers} M G'/\Marks Φ.w0 M G' [mark D] :=by
   intro W G' J pe ay hL S hK ol oD u;have hr:=run_endLoop (P:=P) hL (by rw[K];exact S);refine⟨_,by rw[K]at hr;exact hr,(u.quiet (aF9 ol aw)).aQ1 _ rfl rfl rfl rfl rfl rfl (by rw[u.nd]) u.kp,[D],rfl,Ad,λD' bm=>?_⟩;rw[Ri.1 bm];exact⟨bn,(World.putObj_heap_other aq).trans hK,oD⟩
  rintro e W ⟨⟨v,rfl⟩,(⟨G',p,hI,u,hL,hK,ol,oD⟩|⟨G',c,e,J,hc,hq,u,hL,hK,ol,oD⟩)⟩
  ·let⟨M,r1,r2,r3⟩:=mk hL Ad hK ol oD u
   exact⟨none,M,r1,[mark D],st p,G',a7 p hI,r2,r3⟩
  ·let⟨M,r1,r2,r3⟩:=mk hL Ad hK ol oD u
   refine⟨some c,M,r1,?_⟩;rcases hc with⟨rfl,rfl⟩|⟨i,rfl,rfl⟩
   ·exact wpIn_ret ⟨[mark D],J,G',hq,r2,r3⟩
   ·exact wpIn_exit ⟨[mark D],J,G',hq,r2,r3⟩
end
section
variable{T:Tab}{P:Program}{Φ:Fr}{σ:St}{a:Act}{w w':World}{G G':Gh}{K:VK}{o:Oper}{d:Nat}
def aS6{K}:∀ l  σ,aY0 T P b n ops l σ.env σ.bx σ.ar K->Run T P b n ops l σ K:=by
 intro l;induction l with
 |nil=>intro σ h;exact h
 |cons o r g=>
  intro σ h;have f:=h;exact(aX6 f).mono (λ_ _ _ c=>aR8 c) (λe c=>g e c)
def aK7:x∈appR l m↔x∈l\/x∈m:=by rw[bT,Rh]
def wpIn_loop_ghost(I:Nat->Act->World->Prop) b(i:I b a w)
 (round:∀h a w,I h a w->c.wpIn F n P (Exit.then (λj w'=>∃m,m<h/\I m j w') Q) a w):(Code.loop c).wpIn F n P Q a w:=by
 refine wpIn_loop (λa w=>∃n,I n a w) (λa w=>leastOf (λn=>I n a w)) ⟨b,i⟩ ?_;intro a w p;refine Ug (round _ a w (leastOf_spec p).1) ?_;intro e j w' g;cases e with
 |normal=>
  let⟨h,k,f⟩:=g;exact show(∃n,I n j w')/\leastOf (λn=>I n j w')<leastOf (λn=>I n a w)from⟨⟨h,f⟩,Nat.lt_of_le_of_lt ((leastOf_spec ⟨h,f⟩).2 h f) k⟩
 |exit id=>exact g
 |goto l=>exact g
 |ret=>exact g
 |panic q=>exact g
 |outgrown=>exact g
def oK{b:Frame}:step P (lone (b.atR a (.code (.scope c)::k)) cs w)= .next (lone (b.atR a (.code c:: .inScope c::k)) cs w):=
 step_lone_go (by simp[stepG,stepG.exec,Frame.atR])
def bN3{b:Frame}:step P (lone (b.atR a (.inScope c::k)) cs w)= .next (lone (b.atR a k) cs w):=
 step_lone_go (by simp[stepG,stepG.exec,Frame.atR])
def bE2(h:c.wpIn F n P (λe a w=>match e with| .goto _=>False|e=>Q e a w) a w):(Code.scope c).wpIn F n P Q a w:=by
 intro b k cs v r t;have m:(lone (b.atR a (.code (.scope c)::k)) cs w).fenced P F:=fenced_calm r t rfl;let⟨e,g,i,p,f⟩:=h b (.inScope c::k) cs v r t;cases e with
 |normal=>exact⟨.normal,g,i,p, .head m oK (StepsIn.trans f (.one (fenced_calm r t rfl) bN3))⟩
 |exit j=>
  have x:exitTo j (.inScope c::k)=exitTo j k:=by simp[exitTo]
  exact⟨.exit j,g,i,p,λA s=> .head m oK (f.1 A (by rw[x];exact s)),
   λu s=>let⟨q,y,z⟩:=f.2 u (by rw[x];exact s);⟨q,y, .head m oK z⟩⟩
 |goto l=>exact p.elim
 |ret=>exact⟨_,g,i,p, .of_steps (.one m oK) f⟩
 |panic B=>exact⟨_,g,i,p, .of_steps (.one m oK) f⟩
 |outgrown=>exact⟨_,g,i,p, .of_steps (.one m oK) f⟩
def cZ2(hT:bP T P)(hm:P.follows .mixedOrders=true) c:∀ Φ  k  σ  a  w  G  Q,(k=none\/iC c=true)->Φ.n=n->(∀d∈dstsOf c,Φ.keep d=none)->Inv T Φ σ a w G->nH T P n c σ Q->c.wpIn (FW k) 0 P (Lift T Φ Q) a w:=by
 induction c with
 |skip=>intro Φ k σ a w G Q _ _ _ inv h;exact wpIn_skip (Lift.of h inv)
 |region id ops ac=>
  intro Φ k σ a w G Q _ v u inv h;subst v;have ae:∀o∈ops.toList,∀d,o.dst=some d->Φ.keep d=none:=λo ho d I=>u d (dP9 ho I);let⟨env,bx,ar⟩:=σ;cases ac with
  |false=>
   have r:=h;have hr:=aS6 ops.toList ⟨env,bx,ar⟩ r;exact wpIn_region_list (eB0 hT rfl k (λq J w' G' u j=>Lift.of u j) ops.toList _ a w G ae inv hr)
  |true=>
   have r:=h;replace r:=r.out;let⟨cl,hv,h0,Y,h2⟩:=r;have hr:=aS6 ops.toList ⟨env,bx,ar⟩ h2;exact bC4 hT k hm rfl ae Y (dC3 inv.wfE h0) (λq J w' G' u j=>Lift.of u j) id inv hr
 |seq x y F H=>
  intro Φ k σ a w G Q t v u inv h;have r:=h;replace r:=r.out;have M:=λd I=>u d (aK7.2 (.inl I));have N:=λd I=>u d (aK7.2 (.inr I));have S:k=none\/iC x=true:=t.imp id λhh=>KJ;have U:k=none\/iC y=true:=t.imp id λhh=>KJ;refine wpIn_seq ?_;rcases r with Y|⟨C,Y,h2⟩;refine Ug (F Φ k σ a w G _ S v M inv Y) ?_;rintro e J w' ⟨A,q,G',B,j,mk⟩;cases e with
  |normal=>exact Ug (H (Fr.at {Φ with ds:=A++Φ.ds} w' G') k q J w' G' Q U v N j.up B) (λe a w h=>Lift.back j mk h)
  |_=>exact⟨A,q,G',B,j,mk⟩
  refine Ug (F Φ k σ a w G _ S v M inv Y) ?_;rintro e J w' ⟨A,q,G',B,j,mk⟩;cases e with
  |normal=>
   let⟨p,Z,ad⟩:=B;let⟨G2,z⟩:=Z.out j.up;have E:=j.down j.aF0 z rfl rfl rfl rfl rfl rfl rfl rfl
   have aa:Marks Φ.w0 w' G2 A:=by
    let⟨Ds,e1,e2,e3⟩:=mk;refine⟨Ds,e1,e2,λD hD=>?_⟩;let⟨q1,q2,q3⟩:=e3 D hD;exact⟨q1,q2,(z.mP (w0:=w') (G0:=G') rfl rfl rfl (Ry.1 q2).1 q3).2⟩
   exact Ug (H (Fr.at {Φ with ds:=A++Φ.ds} w' G2) k _ J w' G2 Q U v N E.up (h2 p ad)) (λe a w h=>Lift.back E aa h)
  |_=>exact⟨A,q,G',B,j,mk⟩
 |cond c x y F H=>
  intro Φ k σ a w G Q t v u inv h
  have r:(match σ.ev c with
   | .lit (.bool b)=>branch b (nH T P n x σ Q) (nH T P n y σ Q)
   |_=>False):=h
  have M:=λd I=>u d (aK7.2 (.inl I));have N:=λd I=>u d (aK7.2 (.inr I));have S:k=none\/iC x=true:=t.imp id λhh=>KJ;have U:k=none\/iC y=true:=t.imp id λhh=>KJ;have he:=(inv.ev c).1;split at r;rename_i b hb;rw[hb]at he;cases b with
  |true=>exact wpIn_cond_true he.bH (F Φ k σ a w G Q S v M inv r)
  |false=>exact wpIn_cond_false he.bH (H Φ k σ a w G Q U v N inv r)
  exact r.elim
 |block id c ih=>
  intro Φ k σ a w G Q t v u inv h;refine wpIn_block (Ug (ih Φ k σ a w G _ t v u inv h) ?_);rintro e J w' ⟨A,q,G',B,j,mk⟩;cases e with
  |exit i=>
   have O:cond (Nat.beq i id) (Q .normal q) (Q (.exit i) q):=B;show Exit.inBlock id (Lift T Φ Q) (.exit i) J w';by_cases hi:i=id;subst hi;have hb:=Nat.beq_refl i;rw[hb]at O;simp[Exit.inBlock,Uy];exact⟨A,q,G',O,j,mk⟩;have hb:Nat.beq i id=false:=by rw[<-Ue,TJ];exact hi
   rw[hb]at O;simp[Exit.inBlock,Q9 hi];exact⟨A,q,G',O,j,mk⟩
  |_=>exact⟨A,q,G',B,j,mk⟩
 |loop c ih=>
  intro Φ k σ a w G Q t v u inv h;have r:=h;replace r:=r.out;let⟨L,⟨p0,af,aj⟩,R⟩:=r;let⟨G0,inv0⟩:=af.out inv;refine wpIn_loop_ghost (λn a w=>∃p A G,L.m p=n/\L.inv p/\Inv T {Φ with ds:=A++Φ.ds} (L.st p) a w G/\Marks Φ.w0 w G A) (L.m p0) ⟨p0,[],G0,rfl,aj,inv0,Marks.nil _ _ _⟩ ?_;rintro n' J w' ⟨p,A,G1,rfl,hi,X,mk⟩;refine Ug (ih (Fr.at {Φ with ds:=A++Φ.ds} w' G1) k _ J w' G1 _ t v u X.up (R p hi)) ?_;rintro e a2 w2 hL;let⟨ab,q,G',B,j,ah⟩:=Lift.back X mk hL;cases e with
  |normal=>
   let⟨p',Z,ai,ak⟩:=B;let⟨G2,z⟩:=Z.out j.up;have E:=j.down j.aF0 z rfl rfl rfl rfl rfl rfl rfl rfl
   have aa:Marks Φ.w0 w2 G2 ab:=by
    let⟨Ds,e1,e2,e3⟩:=ah;refine⟨Ds,e1,e2,λD hD=>?_⟩;let⟨q1,q2,q3⟩:=e3 D hD;exact⟨q1,q2,(z.mP (w0:=w2) (G0:=G') rfl rfl rfl (Ry.1 q2).1 q3).2⟩
   exact⟨L.m p',ak,p',ab,G2,rfl,ai,E,aa⟩
  |_=>exact⟨ab,q,G',B,j,ah⟩
 |rangeFunc f ps x y F H=>
  intro Φ k σ a w G Q t v u inv h
  have ag:k=none:=by
   rcases t with h|h;exact h;cases(h:false=true)
  subst ag
  have r:(match σ.ev f with
   | .fn g W=>cond (allR V.still W) (cond (iC x) (cond (iC y) (cond (allR (λp=>Nat.blt p n) ps.toList) (aO0 T P f g W ps.toList (appR ps.toList (appR (dstsOf x) (dstsOf y))) (nH T P n x) (nH T P n y) σ Q) False) False) False) False
   |_=>False):=h
  split at r;let⟨Y,r⟩:=aT r;let⟨h2,r⟩:=aT r;let⟨h3,r⟩:=aT r;let⟨h4,r⟩:=aT r;rw[bT,bT]at r;refine cI6 v (λΦ k σ a w G Q=>F Φ k σ a w G Q (.inr h2)) (λΦ k σ a w G Q=>H Φ k σ a w G Q (.inr h3)) (λp hp=>blt (dY.1 h4 p hp)) ?_ Y inv r;intro d I;refine u d ?_;show d∈appR ps.toList (appR (dstsOf x) (dstsOf y));rw[bT,bT];exact I;exact r.elim
 |exit id=>intro Φ k σ a w G Q _ _ _ inv h;exact wpIn_exit (Lift.of h inv)
 |scope c ih=>
  intro Φ k σ a w G Q t v u inv h;refine bE2 (Ug (ih Φ k σ a w G _ t v u inv h) ?_);rintro e J w' ⟨A,q,G',B,j,mk⟩;cases e with
  |goto l=>exact B.elim
  |_=>exact⟨A,q,G',B,j,mk⟩
 |label l=>intro Φ k σ a w G Q _ _ _ inv h;exact wpIn_label (Lift.of h inv)
 |goto l=>intro Φ k σ a w G Q _ _ _ inv h;exact(h:False).elim
 |ret=>intro Φ k σ a w G Q _ _ _ inv h;exact wpIn_ret (Lift.of h inv)
 |refuse s=>intro Φ k σ a w G Q _ _ _ inv h;exact(h:False).elim
def cL7(m:u≠ .run):∀ c  w,Inv T Φ σ a w G->Φ.ds=[]->a.tmps=tmps->Marks Φ.w0 w G c->(∀w',Inv T Φ σ a w' G->LeavesInM (FW none) 0 P f tmps R [] u w')->LeavesInM (FW none) 0 P f tmps R c u w:=by
 intro c;induction c with
 |nil=>intro w inv _ _ _ h;exact h w inv
 |cons d c n=>
  intro w inv j l mk h;let⟨e,b,g,i⟩:=mk;cases e with
  |nil=>cases b
  |cons D e=>
   injection b with e0 b;subst e0;let⟨q,r,s⟩:=i D Ad;refine⟨m, .inl ⟨D,_,rfl,run_takeDeferred r,?_⟩⟩;refine n _ (inv.quiet (aF9 s q)) j l ⟨e,b,(Va.1 g).2,λt k=>?_⟩ h
   grind [RZ,World.putObj_heap_other,Va]
def wM(z:bP T P)(D:P.follows .mixedOrders=true)(C:P.funcs[f]? =some k)(A:k.body=some c)(q:Φ.ds=[])(t:Φ.keep=λ_=>none)(E:Φ.n=k.ntmps)
 (inv:Inv T Φ σ {tmps:=args++Array.replicate (k.ntmps-args.size) undef,defers:=[]} w G)(h:nH T P k.ntmps c σ Q)
 (l:∀(e:Exit) (b:St) (j:Act) (w':World) (G':Gh),Q e b->Inv T Φ b j w' G'->(e= .normal\/e= .ret)/\∃v,(results k j.tmps).run P w'= .ok v w'/\R (.returned v) w'):Calls P f args w R:=by
 refine bD0.1 (callsIn_of_wp_marks (F:=FW none) C A trivial (Ug (cZ2 z D c Φ none σ _ w G Q (.inl rfl) E (λd _=>by rw[t]) inv h) ?_) rfl);rintro e j w' ⟨y,b,G',u,g,mk⟩;have i:Inv T Φ b {j with defers:=[]} w' G':=g.aQ1 [] rfl rfl rfl rfl rfl rfl q (λs v x=>by rw[t]at x;cases x)
 have r:j.defers=y:=by
  have:=g.nd;rw[q]at this;simpa using this
 let⟨B,_⟩:=l e b _ w' G' u i
 have done:LeavesInM (FW none) 0 P k j.tmps R j.defers .returning w':=by
  rw[r];refine cL7 Ad y w' i q rfl mk λH m=>?_;exact(l e b _ H G' u m).2
 rcases B with rfl|rfl
 ·exact done
 ·exact done
def gG2(h:∀q,rs≠ .bot::q):Rr T w G v (.tup rs)=∃vs,v= .tuple vs/\vs.size=rs.length/\∀ j u y,vs[j]? =some u->rs[j]? =some y->Rb T w G j u y:=by
 simp_all [Rr]
def gB6(h:iQ T ar ys xs):∀q,ys≠ .bot::q:=by
 rintro q rfl;cases xs with
 |nil=>exact h.elim
 |cons x xr=>exact(h.1:False)
def aE3(a:Act):ResultVar->Sem Value
 | .tmp t=>pure (a.tmps.getD t undef)
 | .cell b t=>do loadVar t (<-asAddr (a.tmps.getD b undef))
def aQ5(s:bP T P)(inv:Inv T Φ σ a w G):∀ rs  K,aH3 T σ rs K->
 ∃(xs:List V) (vs:List Value),K xs/\vs.length=xs.length/\vs.length=rs.length/\(∀(i:Nat) v x,vs[i]? =some v->xs[i]? =some x->Rv w G v x/\x.ok σ.hasB σ.hasA)/\
  (rs.mapM (aE3 a)).run P w= .ok vs w:=by
 intro rs;induction rs with
 |nil=>intro K h;exact⟨[],[],h,rfl,rfl,λi v x hv=>by simp at hv,Ad⟩
 |cons x r B=>
  intro K h
  have f:∀ v  u ,Rv w G u v->v.ok σ.hasB σ.hasA->(aE3 a x).run P w= .ok u w->(aH3 T σ r λvs=>K (v::vs))->
   ∃(xs:List V) (vs:List Value),K xs/\vs.length=xs.length/\vs.length=(x::r).length/\(∀(i:Nat) v x,vs[i]? =some v->xs[i]? =some x->Rv w G v x/\x.ok σ.hasB σ.hasA)/\
    ((x::r).mapM (aE3 a)).run P w= .ok vs w:=by
   intro v u hv E c e;let⟨xs,vs,m,h2,q,C,D⟩:=B _ e;refine⟨v::xs,u::vs,m,H7,by simp[q],?_,?_⟩
   ·grind
   ·simp_all
  cases x with
  |tmp t=>
   have g:force (σ.env t) (λv=>aH3 T σ r λvs=>K (v::vs)):=h;rw[force_eq]at g;exact f _ _ (inv.env t) (inv.wfE t) (by simp[aE3]) g
  |cell b t=>
   have g:=h;let⟨A,h2⟩:=aT g;let⟨l,v',v,y,c,z,hv,k⟩:=cG1 s inv t (.tmp b) (blt A) h2;have j:a.tmps.getD b undef= .pointer (some l):=y;exact f v v' hv k (by simp[aE3,j,asAddr,SH,Tq,RG,c]) z
def aI1(vs:List Value):Value:=match vs with| [v] =>v|vs=> .tuple vs.toArray
def aD1(h:(b.results.toList.mapM (aE3 a)).run P w= .ok vs w):
 (results b a.tmps).run P w= .ok (aI1 vs) w:=by
 have c:(b.results.mapM (aE3 a)).run P w= .ok vs.toArray w:=by
  simp_all [Array.mapM_eq_mapM_toList,RG]
 have e:(results b a.tmps)=(do let vs<-b.results.mapM (aE3 a);pure (if h:vs.size=1 then vs[0]else .tuple vs)):=by
  congr 1
 rw[e];simp[SH,c,RG,Tq];congr 1;match vs with
 | [] =>rfl
 | [v] =>rfl
 |v::u::r=>simp;rfl
theorem lY:∀ ys  j s,pF ys j s=if j<=s then(match ys[s-j]? with|some y=>cond (linear y) (.arr s 0) y|none=> .tup [])else .tup [] :=by
 intro ys;induction ys with
 |nil=>intro j s;show V.tup [] =_;split<;>simp
 |cons y r ih=>
  intro j s;show cond (Nat.beq s j) (cond (linear y) (.arr j 0) y) (pF r (j+1) s)=_;by_cases e:s=j;simp_all;exact Lh
theorem gY:∀ ys  j s,jK ys j s=if j<=s then(match ys[s-j]? with|some (.own e l)=>some ⟨0, .own,e,l⟩|some (.ap e l)=>some ⟨0, .ap,e,l⟩|_=>none)else none:=by
 intro ys;induction ys with
 |nil=>intro j s;show none=_;split<;>simp
 |cons y r ih=>
  intro j s;show cond (Nat.beq s j) (match y with| .own e l=>some (⟨0, .own,e,l⟩:AE)| .ap e l=>some ⟨0, .ap,e,l⟩|_=>none) (jK r (j+1) s)=_;by_cases e:s=j;subst e;rw[show Nat.beq s s=true from Nat.beq_refl s];grind;exact Lh
end
end Go.Ab
