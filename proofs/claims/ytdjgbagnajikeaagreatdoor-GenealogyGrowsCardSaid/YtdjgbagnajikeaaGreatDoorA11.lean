/-
  Functions to which variables are lent.
-/
import Derived.Test.YtdjgbagnajikeaaGreatDoorA10
import Derived.KernelRfl
set_option linter.unusedVariables false
set_option linter.unusedSimpArgs false
noncomputable section
namespace Go.Ab
def kW(b:List V):Nat->List V:=
 List.rec (motive:=λ_=>Nat->List V) (λ_=> []) (λy _ ih t=>cond (linear y) (.arr t 0) y::ih (t+1)) b
def bB3(bs:List (List V)):Nat->Nat->Option (List V):=
 List.rec (motive:=λ_=>Nat->Nat->Option (List V)) (λ_ _=>none) (λb _ ih j s=>cond (Nat.beq s (100000+j)) (some (kW b (100000*(j+1)))) (ih (j+1) s)) bs
def vT(bs:List (List V)):Nat->Nat->Option AE:=
 List.rec (motive:=λ_=>Nat->Nat->Option AE) (λ_ _=>none) (λb _ ih j s=>match jK b (100000*(j+1)) s with|some en=>some en|none=>ih (j+1) s) bs
def aG1(ys:List V)(bs:List (List V)):St:=⟨pF ys 0,bB3 bs 0,λs=>match jK ys 0 s with|some en=>some en|none=>vT bs 0 s⟩
def iP(bs:List (List V)):Nat->List Nat:=List.rec (motive:=λ_=>Nat->List Nat) (λ_=> []) (λ_ _ ih j=>(100000+j)::ih (j+1)) bs
def aT2(bx:Nat->Option (List V))(gs:Grp)(is:List Nat):Bool:=aE7 (ownG gs)&&allR (λk=> !memR k (mF gs)) (ownG gs)&&allR (λi=>isS (bx i)) is
structure retB(T:Tab)(σ:St)(rs:List ResultVar)(r:V)(bs:List (List V)):Prop where
 out:aH3 T σ rs λxs=>match xs with
  | [x] =>xM T σ.ar (iP bs 0) (([x],[r])::eU σ.bx bs (iP bs 0))/\aT2 σ.bx (([x],[r])::eU σ.bx bs (iP bs 0)) (iP bs 0)=true/\(∀rs,r≠ .tup rs)
  |xs=>∃ys,r= .tup ys/\xM T σ.ar (iP bs 0) ((xs,ys)::eU σ.bx bs (iP bs 0))/\aT2 σ.bx ((xs,ys)::eU σ.bx bs (iP bs 0)) (iP bs 0)=true
def jR(T:Tab)(P:Program)(fn:Func)(ys:List V)(bs:List (List V))(r:V)(bs':List (List V)):Prop:=
 match fn.body with
 |some c=>nH T P fn.ntmps c (aG1 ys bs) λe σ=>match e with
  | .normal=>retB T σ fn.results.toList r bs'
  | .ret=>retB T σ fn.results.toList r bs'
  |_=>False
 |none=>False
section
variable{T:Tab}{P:Program}{Φ:Fr}{σ:St}{a:Act}{w w':World}{G G':Gh}{K:VK}{o:Oper}{d:Nat}
theorem aH4:∀(b:List V) (t q:Nat),(kW b t)[q]? =(b[q]?).map λy=>cond (linear y) (.arr (t+q) 0) y:=by
 intro b
 induction b with
 |nil=>intro t q;simp[kW]
 |cons y r c=>
  intro t q;have e:kW (y::r) t=cond (linear y) (.arr t 0) y::kW r (t+1):=rfl;grind
theorem aR6:∀(b:List V) (t:Nat),(kW b t).length=b.length:=by
 intro b
 induction b with
 |nil=>intro t;rfl
 |cons y r c=>intro t;exact Rh Nat.succ (c (t+1))
theorem bI8:∀(bs:List (List V)) (j s:Nat),bB3 bs j s=if 100000+j<=s then(bs[s- (100000+j)]?).map λb=>kW b (100000*(s-100000+1))else none:=by
 intro bs
 induction bs with
 |nil=>intro j s;show none=_;split<;>simp
 |cons b r g=>
  intro j s;show cond (Nat.beq s (100000+j)) (some (kW b (100000*(j+1)))) (bB3 r (j+1) s)=_;by_cases e:s=100000+j
  ·simp_all
  ·have f:Nat.beq s (100000+j)=false:=by rw[<-TF,SX];exact e
   rw[f,SA,g];by_cases c:100000+(j+1)<=s
   ·rw[Q9 c,Q9 Aa]
    rw[show s- (100000+j)=(s- (100000+(j+1)))+1 from Aa,RG]
   ·rw[Q5 c,Q5 Aa]
theorem cC7{bs:List (List V)}(u:∀b∈bs,b.length<100000):∀ {j s:Nat} {en:AE},vT bs j s=some en->∃(i q:Nat) (b:List V),bs[i]? =some b/\s=100000*(j+i+1)+q/\q<b.length/\(b[q]? =some (.own en.ty en.l)/\en=⟨0, .own,en.ty,en.l⟩\/b[q]? =some (.ap en.ty en.l)/\en=⟨0, .ap,en.ty,en.l⟩):=by
 induction bs with
 |nil=>intro j s en h;cases h
 |cons b r y=>
  intro j s en h;have g:(match jK b (100000*(j+1)) s with|some en=>some en|none=>vT r (j+1) s)=some en:=h
  split at g
  ·rename_i v c
   cases g;rw[gY]at c;split at c
   ·rename_i m
    split at c
    ·rename_i e l f
     cases c;exact⟨0,s-100000*(j+1),b,rfl,Aa,(QD.1 f).1, .inl ⟨f,rfl⟩⟩
    ·rename_i e l f
     cases c;exact⟨0,s-100000*(j+1),b,rfl,Aa,(QD.1 f).1, .inr ⟨f,rfl⟩⟩
    ·cases c
   ·cases c
  ·obtain⟨i,q,x,A,z,t,n⟩:=y (λb k=>u b (by simp[k])) g
   exact⟨i+1,q,x,A,by rw[z];omega,t,n⟩
theorem cU9{bs:List (List V)}:∀ {j i q:Nat} {b:List V} {y:V},bs[i]? =some b->b[q]? =some y->linear y=true->∃en,vT bs j (100000*(j+i+1)+q)=some en:=by
 induction bs with
 |nil=>intro j i q b y h;simp at h
 |cons e r g=>
  intro j i q b y hb c k;show∃en,(match jK e (100000*(j+1)) (100000*(j+i+1)+q)with|some en=>some en|none=>vT r (j+1) (100000*(j+i+1)+q))=some en
  cases f:jK e (100000*(j+1)) (100000*(j+i+1)+q)with
  |some en=>exact⟨en,rfl⟩
  |none=>
   simp only
   cases i with
   |zero=>
    simp at hb;subst hb;rw[gY,Q9 Aa,show 100000*(j+0+1)+q-100000*(j+1)=q from Aa,c]at f;cases y<;>simp_all [linear]
   |succ i=>
    have:=g (j:=j+1) (i:=i) (q:=q) FH c k;grind
theorem bR0:∀(bs:List (List V)) (j i:Nat),(iP bs j)[i]? =if i<bs.length then some (100000+(j+i))else none:=by
 intro bs
 induction bs with
 |nil=>intro j i;simp[iP]
 |cons b r c=>
  intro j i;have e:iP (b::r) j=(100000+j)::iP r (j+1):=rfl;grind
theorem cD7(bs:List (List V)):∀j,(iP bs j).length=bs.length:=by
 induction bs with
 |nil=>intro j;rfl
 |cons b r c=>intro j;exact Rh Nat.succ (c (j+1))
theorem cT3{bx:Nat->Option (List V)}{b:Grp}{is:List Nat}(h:aT2 bx b is=true):(ownG b).Nodup/\(∀k∈ownG b,k∉mF b)/\∀i∈is,∃cs,bx i=some cs:=by
 unfold aT2 at h;simp only[QN]at h;obtain⟨⟨c,j⟩,e⟩:=h;refine⟨uU.1 c,λk g f=>?_,λi hi=>?_⟩
 ·grind [dY,pM]
 ·have:=dY.1 e i hi
  unfold isS at this;grind
set_option maxHeartbeats 1600000 in
theorem dR3(inv:Inv T Φ σ a w G){xs ys:List V}{bs:List (List V)}{gs:Grp}(B:gs=(xs,ys)::eU σ.bx bs (iP bs 0))(r:xM T σ.ar (iP bs 0) gs)(H:aT2 σ.bx gs (iP bs 0)=true)(vs:List Value)(aa:∀(i:Nat) v x,vs[i]? =some v->xs[i]? =some x->Rv w G v x/\x.ok σ.hasB σ.hasA):
 ∃Gc:Gh,(∀(j:Nat) v y,vs[j]? =some v->ys[j]? =some y->RbB T w Gc bs.length j v y)/\BxOk T w Gc bs/\Gc.β=G.β/\(∀b,G.O b= .fz->Gc.O b= .fz)/\
  (∀b,Gc.O b≠ .ext->(G.O b= .fz/\Gc.O b= .fz)\/(∃k,G.O b= .ar k)\/(∃i,i<bs.length/\b=G.β (100000+i)/\Gc.O b= .bx (100000+i)))/\xs.length=ys.length:=by
 obtain⟨X,F,C⟩:=cT3 H;have z:(iP bs 0).length=bs.length:=cD7 bs 0;have f:∀(j:Nat),j<bs.length->(iP bs 0)[j]? =some (100000+j):=λj I=>by rw[bR0,Q9 I,SL]
 have g0:gs[0]? =some (xs,ys):=by rw[B];rfl
 have Z:∀(j:Nat) b,bs[j]? =some b->gs[j+1]? =some ((σ.bx (100000+j)).getD [],b):=by
  intro j b S;rw[B,RG];exact(aR3 z j _).2 ⟨_,b,f j (QD.1 S).1,S,rfl⟩
 have n:∀(γ:Nat) (g:List V×List V),gs[γ]? =some g->g.1.length=g.2.length/\∀(q:Nat) x y,g.1[q]? =some x->g.2[q]? =some y->aP8 T σ.ar (iP bs 0) x y:=λγ g hg=>aB1 (aJ8 r γ g hg);generalize hok:ownG gs=ok at*;generalize U:mF gs=Q at*
 let m:Nat->Nat:=λk=> @dite _ (∃t,∃γ q,t=100000*γ+q/\PosG gs γ q k) (Classical.propDecidable _) (λh=>h.choose) (λ_=>0)
 have hpos:∀ {γ q k},PosG gs γ q k->m k=100000*γ+q:=by
  intro γ q k hp;exact P7
 let Gc:Gh:={G with O:=λb=>match G.O b with| .fz=> .fz| .ar k=>if k∈Q then .fz else if k∈ok then .ar (m k)else .ext| .bx i=>if(100000<=i/\i<100000+bs.length)/\b=G.β i then .bx i else .ext| .ext=> .ext}
 have e:∀b,G.O b= .fz->Gc.O b= .fz:=λb hb=>BU
 have s:∀b i,G.O b= .bx i->(100000<=i/\i<100000+bs.length)/\b=G.β i->Gc.O b= .bx i:=λb i hb h=>by
  simp only[Gc];rw[hb];simp only;rw[Q9 h]
 have R:∀b k,G.O b= .ar k->k∈Q->Gc.O b= .fz:=λb k hb hk=>DT
 have c_ok:∀b k,G.O b= .ar k->k∈ok->Gc.O b= .ar (m k):=λb k hb hk=>by
  grind
 have J:Keep w w G Gc:=⟨e,λ_ _=>rfl⟩
 have A:∀b i,nth (iP bs 0) (b-100000)=some i->100000<=b->Gc.β b=G.β i:=by
  grind [uN,bR0,UC]
 have D:∀(γ q:Nat) (g:List V×List V) (v:Value) (x y:V),gs[γ]? =some g->g.1[q]? =some x->g.2[q]? =some y->Rv w G v x->x.ok σ.hasB σ.hasA->RbB T w Gc bs.length (100000*γ+q) v y:=by
  intro γ q g v x y hg hx hy hv L;rw[<-z];refine aW7 inv J A ((n γ g hg).2 q x y hx hy) hv L (λhl k hk b hb=>?_) (λhl k hk b hb=>?_)
  ·grind [aS8,nP]
  ·exact LV
 refine⟨Gc,?_,?_,rfl,e,?_,(n 0 _ g0).1⟩
 ·grind
 ·intro j b hb
  have I:=(QD.1 hb).1;obtain⟨cs,l⟩:=C (100000+j) (QF (f j I));obtain⟨c,t,Y,E,q4⟩:=inv.box _ cs l;have hg:=Z j b hb
  rw[l]at hg;simp only[TY]at hg;have M:=(n _ _ hg).1;refine⟨s _ _ q4 ⟨⟨Aa,Aa⟩,rfl⟩,c,t,Y,?_,?_⟩
  ·have:=E.len
   simp only[RD]at this;rw[this];exact M
  ·intro q v y hv hy
   have W:q<cs.length:=by
    grind
   have hx:cs[q]? =some cs[q] :=QE W;have u:c.toList[q]? =some v:=Bl
   exact⟨E.one v (QF u),D (j+1) q _ v _ y hg hx hy (E.rel q v _ u hx) (aH.1 (inv.wfB _ cs l) _ (QF hx))⟩
 ·intro b hb
  cases N:G.O b with
  |ext=>exfalso;apply hb;simp only[Gc];rw[N]
  |fz=>exact .inl ⟨rfl,e b N⟩
  |ar k=>exact .inr (.inl ⟨k,rfl⟩)
  |bx i=>
   by_cases hi:(100000<=i/\i<100000+bs.length)/\b=G.β i
   ·refine .inr (.inr ⟨i-100000,Aa,?_,?_⟩)
    ·grind
    ·grind
   ·grind
set_option maxHeartbeats 3200000 in
theorem dP3(hT:bP T P)(hm:P.follows .mixedOrders=true){f:FuncId}{fn:Func}(hf:P.funcs[f]? =some fn)(hc:callable P f=true){ys:List V}{bs:List (List V)}{r:V}{z:List (List V)}(hn:ys.length<=fn.ntmps)(a7:fn.ntmps<100000)(h8:bs.length<=8)(aa:∀b∈bs,b.length<100000)(hlens:z.map List.length=bs.map List.length)(h:jR T P fn ys bs r z):aU2 T P f ys bs r z:=by
 refine⟨hc,hlens,?_⟩;intro w G cs hcs ag hbx Z hargs a1;have aw:z.length=bs.length:=DV;unfold jR at h;split at h
 ·rename_i c Q
  let Φ:Fr:=⟨w,λb=>(∃j,G.O b= .ar j)\/(∃i,G.O b= .bx i),λb=>G.O b= .fz,fn.ntmps,λ_=>none,λi=>if 100000<=i/\i<100000+bs.length then some (G.β i)else none,[],λ_=>none⟩
  let m:Nat->Nat->Value:=λj q=>match w.heap[G.β (100000+j)]? with|some (.cells c _ _)=>c.getD q undef|_=>undef
  let G0:Gh:={G with av:=λk _=>if k<100000 then cs.getD k undef else m (k/100000-1) (k% 100000)}
  have al:∀k,k<100000->G0.av k 0=cs.getD k undef:=λk hk=>by simp only[G0];rw[Q9 hk]
  have ao:∀j q,q<100000->G0.av (100000*(j+1)+q) 0=m j q:=λj q hq=>by
   simp only[G0];rw[Q5 Aa];rw[show(100000*(j+1)+q)/100000-1=j from Aa,show(100000*(j+1)+q)% 100000=q from Aa]
  have E:Keep w w G G0:=⟨λ_ h=>h,λ_ _=>rfl⟩;have a8:ys.length<100000:=Aa
  have ai:∀(j:Nat) y,ys[j]? =some y->RbB T w G bs.length j (cs.getD j undef) y:=by
   intro j y hy;exact Pm
  have a2:∀ {j u e l},gJ T w G j u e l->u.oneCell'=true:=by
   intro j u e l h;exact OI
  have a0:∀ {u l},Rv w G u (.cap l)->u.oneCell'=true:=by
   intro u l h;exact OZ
  have A:∀ {j v y},RbB T w G bs.length j v y->linear y=false->y.ok (λi=>100000<=i/\i<100000+bs.length) (λ_ _=>False)/\Rv w G0 v y:=by
   intro j v y hr H
   have:y.ok (λi=>100000<=i/\i<100000+bs.length) (λ_ _=>False)/\Rv w G v y:=by
    unfold RbB at hr;grind [linear]
   exact⟨this.1,this.2.keep E this.1 (λ_ _=>rfl) (λ_ _ h=>h.elim)⟩
  have aj:∀ {j v y},RbB T w G bs.length j v y->linear y=true->v.oneCell'=true:=by
   grind [oW,RbB]
  have B:∀(j:Nat) b,bs[j]? =some b->G.O (G.β (100000+j))= .bx (100000+j)/\∃c t,w.heap[G.β (100000+j)]? =some (.cells c t (0,0))/\c.size=b.length/\
   ∀(q:Nat) y,b[q]? =some y->c[q]? =some (m j q)/\(m j q).oneCell'=true/\RbB T w G bs.length (100000*(j+1)+q) (m j q) y:=by
   intro j b Q;obtain⟨L,c,t,q2,I,U⟩:=Z j b Q;refine⟨L,c,t,q2,I,λq y hy=>?_⟩;have hq:q<c.size:=by rw[I];exact(QD.1 hy).1
   have e1:m j q=c[q] :=by simp only[m];rw[q2];simp[hq]
   grind
  have W:∀i n,bB3 bs 0 i=some n->∃j b,i=100000+j/\bs[j]? =some b/\n=kW b (100000*(j+1)):=by
   intro i n hi;rw[bI8]at hi;split at hi
   ·rename_i a5
    cases g:bs[i- (100000+0)]? with
    |none=>rw[g]at hi;cases hi
    |some b=>
     rw[g]at hi;simp only[Sr,RS]at hi;exact⟨i-100000,b,Aa,by simpa using g,hi.symm⟩
   ·cases hi
  have ah:∀j b,bs[j]? =some b->bB3 bs 0 (100000+j)=some (kW b (100000*(j+1))):=by
   intro j b g;rw[bI8,Q9 Aa,show 100000+j- (100000+0)=j from Aa,g];rfl
  have J:∀i,(100000<=i/\i<100000+bs.length)->(aG1 ys bs).hasB i:=by
   rintro i ⟨h1,h2⟩;have hj:i-100000<bs.length:=Aa;have:=ah (i-100000) bs[i-100000] (QE hj)
   rw[show 100000+(i-100000)=i from Aa]at this;exact⟨_,this⟩
  have ae:∀(s:Nat) y,ys[s]? =some y->linear y=true->(aG1 ys bs).hasA s 0:=by
   intro s y hy H
   have:∃en,jK ys 0 s=some en:=by
    rw[gY];simp only[Ro,TQ,TV,hy];cases y<;>simp_all [linear]
   obtain⟨en,D⟩:=this;exact⟨en,by show(match jK ys 0 s with|some en=>some en|none=>vT bs 0 s)=_;rw[D],Ro _⟩
  have ac:∀(j q:Nat) b y,bs[j]? =some b->b[q]? =some y->linear y=true->(aG1 ys bs).hasA (100000*(j+1)+q) 0:=by
   intro j q b y g hy H;obtain⟨en,D⟩:=cU9 (j:=0) g hy H;rw[SL]at D
   have h0:jK ys 0 (100000*(j+1)+q)=none:=by
    rw[gY];grind
   exact⟨en,by show(match jK ys 0 _ with|some en=>some en|none=>vT bs 0 _)=_;rw[h0];exact D,Ro _⟩
  have N:∀k en,(aG1 ys bs).ar k=some en->∃v y,RbB T w G bs.length k v y/\G0.av k 0=v/\((y= .own en.ty en.l/\en=⟨0, .own,en.ty,en.l⟩)\/(y= .ap en.ty en.l/\en=⟨0, .ap,en.ty,en.l⟩)):=by
   intro k en D;have S:(match jK ys 0 k with|some en=>some en|none=>vT bs 0 k)=some en:=D
   split at S
   ·rename_i a4 h0
    cases S;rw[gY]at h0;grind
   ·obtain⟨i,q,b,h1,h2,h3,Y⟩:=cC7 aa S
    rw[SL]at h2;have hq:q<100000:=by have:=aa b (QF h1);omega
    obtain⟨_,c,t,_,_,ay⟩:=B i b h1;subst h2;rcases Y with⟨Y,h5⟩|⟨Y,h5⟩
    ·grind
    ·grind
  have inv:Inv T Φ (aG1 ys bs) {tmps:=cs++Array.replicate (fn.ntmps-cs.size) undef,defers:=[]} w G0:=by
   constructor
   ·rfl
   ·intro s v h;cases h
   ·grind
   ·intro s
    show Rv w G0 ((cs++Array.replicate (fn.ntmps-cs.size) undef).getD s undef) (pF ys 0 s);rw[lY];simp only[Ro,TQ,TV];by_cases hs:s<cs.size
    ·have hv:(cs++Array.replicate (fn.ntmps-cs.size) undef).getD s undef=cs.getD s undef:=by
      simp[Ug hs]
     have hy:ys[s]? =some ys[s] :=QE Aa;rw[hv,hy];have hr:=ai s _ hy
     generalize ys[s] =y at*;simp only
     cases H:linear y with
     |false=>exact(A hr H).2
     |true=>
      have h1:=aj hr H;have e:=al s Aa
      rw[<-e]at h1⊢;exact Rv.arr (w:=w) (G:=G0) s 0 h1
    ·exact IY
   ·intro s
    show(pF ys 0 s).ok _ _;rw[lY];simp only[Ro,TQ,TV]
    cases hy:ys[s]? with
    |none=>simp only[V.ok,V.okL]
    |some y=>
     simp only;have hr:=ai s y hy
     cases H:linear y with
     |false=>exact V.ok.imp J (λ_ _ h=>h.elim) _ (A hr H).1
     |true=>
      simp only[SG,V.ok];exact ae s y hy H
   ·intro i n hi
    obtain⟨j,b,rfl,g,rfl⟩:=W i n hi;obtain⟨L,c,t,q2,I,U⟩:=B j b g;refine⟨c,t,q2,⟨by rw[aR6];simpa using I,λv hv=>?_,λq v x hv R=>?_⟩,L⟩
    ·obtain⟨q,hq⟩:=QY hv
     have au:q<b.length:=by rw[<-I];simpa using(QD.1 hq).1
     obtain⟨k1,k2,_⟩:=U q _ (QE au);grind
    ·rw[aH4]at R
     cases hy:b[q]? with
     |none=>rw[hy]at R;cases R
     |some y=>
      rw[hy]at R;simp only[Sr,RS]at R;obtain⟨k1,k2,k3⟩:=U q y hy;have as:c[q]? =some v:=Bl;rw[k1]at as;cases as
      have hq:q<100000:=by
       have h1:=aa b (QF g);grind
      cases H:linear y with
      |false=>rw[H]at R;simp only[SA]at R;subst R;exact(A k3 H).2
      |true=>
       rw[H]at R;simp only[SG]at R;subst R;have e:=ao j q hq;rw[<-e]at k2⊢;exact Rv.arr (w:=w) (G:=G0) _ 0 k2
   ·intro i n hi
    obtain⟨j,b,rfl,g,rfl⟩:=W i n hi;obtain⟨L,c,t,q2,I,U⟩:=B j b g;refine aH.2 λx R=>?_;obtain⟨q,hq⟩:=QY R;rw[aH4]at hq
    cases hy:b[q]? with
    |none=>rw[hy]at hq;cases hq
    |some y=>
     rw[hy]at hq;simp only[Sr,RS]at hq;obtain⟨k1,k2,k3⟩:=U q y hy
     cases H:linear y with
     |false=>rw[H]at hq;simp only[SA]at hq;subst hq;exact V.ok.imp J (λ_ _ h=>h.elim) _ (A k3 H).1
     |true=>rw[H]at hq;simp only[SG]at hq;subst hq;simp only[V.ok];exact ac j q b y g hy H
   ·intro k en D
    obtain⟨v,y,h1,h2,h3⟩:=N k en D;have hO:∀b,G.O b= .ar k->G0.O b= .ar k/\w.heap[b]? =w.heap[b]? :=λb Q=>⟨Q,rfl⟩;rcases h3 with⟨rfl,Y⟩|⟨rfl,Y⟩
    ·obtain⟨L,q2,I⟩:=h1
     rw[Y];unfold gW;refine⟨L,?_⟩;show gJ T w G0 k (G0.av k 0) _ _;rw[h2];exact I.keep E q2 hO
    ·obtain⟨L,q2,I⟩:=h1
     rw[Y];unfold gW;refine⟨L,?_⟩;show gJ T w G0 k (G0.av k 0) _ _\/(Rv w G0 (G0.av k 0) _/\_);rw[h2];rcases I with q|q
     ·exact .inl (q.keep E q2 hO)
     ·exact .inr ⟨q.1.aW E EW,q.2⟩
   ·intro k en D
    obtain⟨v,y,h1,h2,h3⟩:=N k en D;rcases h3 with⟨rfl,Y⟩|⟨rfl,Y⟩
    ·exact h1.2.1
    ·exact h1.2.1
   ·exact ag
   ·intro b i g;exact .inr (.inr ⟨i,g⟩)
   ·intro b k g;exact .inr (.inl ⟨k,g⟩)
   ·intro b g;exact .inl g
   ·intro b g;exact g
   ·intro b _ _;rfl
   ·exact QH _
   ·rfl
   ·rfl
   ·rfl
   ·intro j v h;cases h
   ·grind
   ·intro i b h'
    have ab:(if 100000<=i/\i<100000+bs.length then some (G.β i)else none)=some b:=h'
    split at ab
    ·rename_i hi
     cases ab;exact⟨rfl,⟨hi.1,Aa⟩,J i hi⟩
    ·cases ab
  refine wM hT hm hf Q (Φ:=Φ) rfl rfl rfl inv h ?_
  have fin:∀(e:Exit) (σ:St) (a':Act) (w':World) (G':Gh),retB T σ fn.results.toList r z->Inv T Φ σ a' w' G'->∃v,(results fn a'.tmps).run P w'= .ok v w'/\∃v0 C,(Ending.returned v= .returned v0)/\RrB T w' C bs.length v0 r/\BxOk T w' C z/\(∀i,i<bs.length->C.β (100000+i)=G.β (100000+i))/\
   (∀b,G.O b= .fz->C.O b= .fz)/\(∀b,C.O b≠ .ext->b<w'.heap.size)/\
   (∀b,C.O b≠ .ext->(G.O b= .fz/\C.O b= .fz)\/w.heap.size<=b\/(∃j,G.O b= .ar j)\/(∃i,G.O b= .bx i/\C.O b= .bx i))/\
   (∀b,b<w.heap.size->(∀j,G.O b≠ .ar j)->(∀i,G.O b≠ .bx i)->w'.heap[b]? =w.heap[b]?)/\
   w.heap.size<=w'.heap.size/\w'.os=w.os/\w'.tape=w.tape/\w'.output=w.output:=by
   intro e σ a' w' G' X inv';replace X:=X.out;obtain⟨xs,vs,hk,af,a3,ax,an⟩:=aQ5 hT inv' _ _ X;have am:=aD1 an;refine⟨aI1 vs,am,aI1 vs,?_⟩;have ak:∀i,i<bs.length->G'.β (100000+i)=G.β (100000+i):=λi hi=>(inv'.argb (100000+i) (G.β (100000+i)) Bq).1
   have M:∀(F:List V),xM T σ.ar (iP z 0) ((xs,F)::eU σ.bx z (iP z 0))->aT2 σ.bx ((xs,F)::eU σ.bx z (iP z 0)) (iP z 0)=true->∃C:Gh,(∀(j:Nat) v y,vs[j]? =some v->F[j]? =some y->RbB T w' C bs.length j v y)/\xs.length=F.length/\BxOk T w' C z/\(∀i,i<bs.length->C.β (100000+i)=G.β (100000+i))/\
    (∀b,G.O b= .fz->C.O b= .fz)/\(∀b,C.O b≠ .ext->b<w'.heap.size)/\
    (∀b,C.O b≠ .ext->(G.O b= .fz/\C.O b= .fz)\/w.heap.size<=b\/(∃j,G.O b= .ar j)\/(∃i,G.O b= .bx i/\C.O b= .bx i)):=by
    intro F h1 h2;obtain⟨Gc,L,q2,I,U,q5,q6⟩:=dR3 inv' rfl h1 h2 vs ax;rw[aw]at L;refine⟨Gc,L,q6,q2,λi hi=>by rw[I];exact ak i hi,λb Q=>U b (inv'.F0 b Q),λb Q=>inv'.tag b ?_,λb Q=>?_⟩
    ·rcases q5 b Q with⟨h,_⟩|⟨k,h⟩|⟨i,hi,h,_⟩
     ·rw[h];simp
     ·rw[h];simp
     ·obtain⟨_,_,cs0,hcs0⟩:=inv'.argb (100000+i) (G.β (100000+i)) Bq
      obtain⟨_,_,_,_,hO⟩:=inv'.box _ cs0 hcs0;rw[h,hO];simp
    ·rcases q5 b Q with⟨h,h'⟩|⟨k,h⟩|⟨i,hi,h,h'⟩
     ·rcases inv'.fzm b h with h2|h2
      ·exact .inl ⟨h2,h'⟩
      ·rcases h2 with h2|h2|⟨i,h2⟩
       ·exact .inr (.inl h2)
       ·exact .inr (.inr (.inl h2))
       ·exact JY
     ·rcases inv'.mineA b k h with h2|h2|⟨i,h2⟩
      ·exact .inr (.inl h2)
      ·exact .inr (.inr (.inl h2))
      ·exact JY
     ·rw[ak i Aa]at h
      refine .inr (.inr (.inr ⟨100000+i,?_,h'⟩));rw[h];have az:i<bs.length:=Aa;exact(B i bs[i] (QE az)).1
   have frame:(∀b,b<w.heap.size->(∀j,G.O b≠ .ar j)->(∀i,G.O b≠ .bx i)->w'.heap[b]? =w.heap[b]?)/\w.heap.size<=w'.heap.size/\w'.os=w.os/\w'.tape=w.tape/\w'.output=w.output:=
    ⟨λb Q hj hi=>inv'.frame b Q (by
     rintro(⟨j,h⟩|⟨i,h⟩)
     ·exact hj j h
     ·exact hi i h),inv'.size,inv'.os,inv'.tape,inv'.output⟩
   split at hk
   ·rename_i x
    obtain⟨g1,g2,g3⟩:=hk;obtain⟨C,L,_,q2,I,U,q5,q6⟩:=M [r] g1 g2;obtain⟨v,rfl⟩:∃v,vs=[v] :=Uz.1 af;refine⟨C,rfl,?_,q2,I,U,q5,q6,frame⟩;have:=L 0 v r rfl rfl;unfold RrB;split
    ·exact absurd rfl (g3 _)
    ·exact this
   ·rename_i a6
    obtain⟨F,rfl,g1,g2⟩:=hk;obtain⟨C,L,aq,q2,I,U,q5,q6⟩:=M F g1 g2;refine⟨C,rfl,?_,q2,I,U,q5,q6,frame⟩;show∃us:Array Value,aI1 vs= .tuple us/\us.size=F.length/\∀(j:Nat) u y,us[j]? =some u->F[j]? =some y->RbB T w' C bs.length j u y;refine⟨vs.toArray,?_,by simp[af,aq],λj u y hu hy=>L j u y Bj hy⟩
    exact Oy
  intro e σ a' w' G' hq inv';exact Nz
 ·exact h.elim
end
def dU6(u' u:Value):Prop:=
 match u with
 | .int k n=>match u' with| .int k' n'=>k'=k/\n'=n|_=>False
 | .bool b=>match u' with| .bool b'=>b'=b|_=>False
 |u=>u'=u
def wk1(ar r:Nat->Option AE)(x y:V):Prop:=
 match y with
 | .bot=>True
 | .lit u=>match x with| .lit u'=>dU6 u' u|_=>False
 | .sl l=>match x with
   | .sl l'=>l'=l
   | .cap l'=>l'=l
   | .lit (.slice none 0 0)=>l=[]
   | .arr k g=>match ar k with
     |some en=>match en.kind with
      | .frz=>en.gen=g/\en.l=l
      |_=>False
     |none=>False
   |_=>False
 | .arr k g=>match x with
   | .arr k' g'=>k'=k/\g'=g
   | .lit (.slice none 0 0)=>match ar k with
     |none=>match r k with
      |some en=>en.gen=g
      |none=>False
     |some _=>False
   |_=>False
 | .box i o=>match x with| .box i' o'=>i'=i/\o'=o|_=>False
 | .cap l=>match x with| .cap l'=>l'=l| .lit (.slice none 0 0)=>l=[] |_=>False
 | .fp l=>match x with| .fp l'=>l'=l|_=>False
 | .fn g l=>match x with| .fn g' l'=>g'=g/\l'=l|_=>False
 | .ae k g z i o=>match x with| .ae k' g' z' i' o'=>k'=k/\g'=g/\z'=z/\i'=i/\o'=o|_=>False
 |_=>False
def wkL(ar r:Nat->Option AE)(ys:List V):List V->Prop:=
 List.rec (motive:=λ_=>List V->Prop) (λxs=>match xs with| [] =>True|_::_=>False)
  (λy _ ih xs=>match xs with|x::xr=>wk1 ar r x y/\ih xr| [] =>False) ys
def wkV(ar r:Nat->Option AE)(x y:V):Prop:=
 match y with
 | .agg ys=>match x with| .agg xs=>wkL ar r ys xs|_=>False
 |y=>wk1 ar r x y
def bX7(a b:AK):Prop:=
 match b with
 | .own=>match a with| .own=>True|_=>False
 | .ap=>match a with| .own=>True| .ap=>True|_=>False
 | .frz=>match a with| .frz=>True|_=>False
 | .dead=>match a with| .dead=>True|_=>False
def wkAE(T:Tab)(o:Option AE)(en:AE):Prop:=
 match o with
 |some en0=>en0.gen=en.gen/\bX7 en0.kind en.kind/\en0.ty=en.ty/\en0.l=en.l
 |none=>bX7 .own en.kind/\en.l=[]/\Nat.blt en.ty (T.n en.ty)=true
def wfC1(b:Nat->Option (List V))(x:V):Prop:=
 match x with
 | .box i _=>match b i with|some _=>True|none=>False
 | .fp _=>True
 | .lit _=>True
 | .own _ [] =>True
 | .ap _ _=>True
 | .sl _=>True
 |_=>False
def wfC(b:Nat->Option (List V))(l:List V):Prop:=List.rec (motive:=λ_=>Prop) True (λx _ ih=>wfC1 b x/\ih) l
def wf1(b:Nat->Option (List V))(r:Nat->Option AE)(x:V):Prop:=
 match x with
 | .box i _=>match b i with|some _=>True|none=>False
 | .arr k g=>match r k with|some en=>g<=en.gen|none=>False
 | .ae k g _ _ _=>match r k with|some en=>g<=en.gen|none=>False
 | .fn _ l=>wfC b l
 |_=>True
def wfL(b:Nat->Option (List V))(r:Nat->Option AE)(l:List V):Prop:=List.rec (motive:=λ_=>Prop) True (λx _ ih=>wf1 b r x/\ih) l
def wfV(b:Nat->Option (List V))(r:Nat->Option AE)(x:V):Prop:=
 match x with
 | .agg cs=>wfL b r cs
 |x=>wf1 b r x
def wkE(σ:St)(b:Nat->Option (List V))(r:Nat->Option AE)(e:List (Nat×V)):Prop:=
 List.rec (motive:=λ_=>Prop) True (λp _ ih=>(wkV σ.ar r (σ.env p.1) p.2/\wfV b r p.2)/\ih) e
def wkB(σ:St)(b:Nat->Option (List V))(r:Nat->Option AE)(l:List (Nat×List V)):Prop:=
 List.rec (motive:=λ_=>Prop) True (λp _ ih=>(match σ.bx p.1 with|some cs=>wkL σ.ar r p.2 cs/\wfL b r p.2|none=>False)/\ih) l
def wkA(T:Tab)(σ:St)(l:List (Nat×AE)):Prop:=
 List.rec (motive:=λ_=>Prop) True (λp _ ih=>wkAE T (σ.ar p.1) p.2/\ih) l
theorem eJ6{c u:Value}(h:dU6 c u):c=u:=by
 unfold dU6 at h;grind
section
variable{T:Tab}{Φ:Fr}{σ:St}{a:Act}{w:World}{G:Gh}{b:Nat->Option (List V)}{r:Nat->Option AE}
def xI(σ:St)(G:Gh):Gh:={G with av:=λk g=>match σ.ar k with|none=> .slice none 0 0|some _=>G.av k g}
theorem bD1(σ:St)(w:World)(G:Gh):Keep w w G (xI σ G):=⟨λ_ h=>h,λ_ _=>rfl⟩
theorem eB6{k g:Nat}(h:σ.hasA k g):(xI σ G).av k g=G.av k g:=by
 obtain⟨en,h,_⟩:=h;simp[xI,h]
theorem eX8{τ:St}{p:Nat->Prop}{q:Nat->Nat->Prop}{l:List V}:wfC τ.bx l->V.okL p q l->V.okL τ.hasB τ.hasA l:=by
 induction l with
 |nil=>intro _ _;simp only[V.okL]
 |cons x r g=>
  intro h c;obtain⟨e,i⟩:wfC1 τ.bx x/\wfC τ.bx r:=h;simp only[V.okL]at c⊢;refine⟨?_,g i c.2⟩;have d:=c.1;unfold wfC1 at e;split at e
  ·split at e
   ·rename_i cs f;simp only[V.ok];exact⟨cs,f⟩
   ·exact e.elim
  ·simp only[V.ok]at d⊢;exact d
  ·simp only[V.ok]
  ·simp only[V.ok,V.okL]
  ·simp only[V.ok]at d⊢;exact d
  ·simp only[V.ok]at d⊢;exact d
  ·exact e.elim
theorem aG3(inv:Inv T Φ σ a w G){v:Value}{x y:V}(j:Rv w G v x)(c:x.ok σ.hasB σ.hasA)(h:wk1 σ.ar r x y)(hw:wf1 b r y)(τ:St)(u:τ.bx=b)(A:τ.ar=r):
 Rv w (xI σ G) v y/\y.ok τ.hasB τ.hasA:=by
 have f:Rv w (xI σ G) v x:=j.keep (bD1 σ w G) c (λ_ _=>rfl) (λk g h=>eB6 h);subst u A;unfold wk1 at h;split at h
 ·exact⟨.bot v,BK⟩
 ·grind [eJ6,V.ok]
 ·split at h
  ·grind [V.ok]
  ·subst h;exact⟨f.wK,by simp only[V.ok]at c⊢;exact c⟩
  ·subst h
   have:=j.bH;subst this;exact⟨.slN,Ep⟩
  ·split at h
   ·rename_i k g _ en hen
    split at h
    ·rename_i s
     obtain⟨rfl,rfl⟩:=h;have q:=inv.arr k en hen;unfold gW at q;rw[s]at q;have hp:=inv.wfA k en hen
     have n:(V.sl en.l).pure:=AB;have hv:=j.oQ
     rw[hv];exact⟨(q:Rv w G _ _).aW (bD1 σ w G) n,by simp only[V.ok];exact hp⟩
    ·exact h.elim
   ·exact h.elim
  ·exact h.elim
 ·rename_i k g
  have m:τ.hasA k g:=KX;split at h
  ·grind [V.ok]
  ·split at h
   ·rename_i d
    split at h
    ·have hv:=j.bH
     subst hv;have e:(xI σ G).av k g= .slice none 0 0:=by simp[xI,d]
     rw[<-e];exact⟨.arr k g (by rw[e];rfl),by simp only[V.ok];exact m⟩
    ·exact h.elim
   ·exact h.elim
  ·exact h.elim
 ·split at h
  ·obtain⟨rfl,rfl⟩:=h
   refine⟨f,?_⟩;unfold wf1 at hw;simp only at hw;split at hw
   ·rename_i cs t;simp only[V.ok];exact⟨cs,t⟩
   ·exact hw.elim
  ·exact h.elim
 ·split at h
  ·grind [V.ok]
  ·subst h
   have:=j.bH;subst this;exact⟨.capN,Ep⟩
  ·exact h.elim
 ·grind [V.ok]
 ·split at h
  ·obtain⟨rfl,rfl⟩:=h
   refine⟨f,?_⟩;simp only[V.ok]at c⊢;exact eX8 (τ:=τ) hw c
  ·exact h.elim
 ·rename_i k g z i o
  have m:τ.hasA k g:=KX;grind [V.ok]
 ·exact h.elim
theorem bL3{ar:Nat->Option AE}{ys:List V}:∀ {xs:List V},wkL ar r ys xs->wfL b r ys->xs.length=ys.length/\∀(i:Nat) x y,xs[i]? =some x->ys[i]? =some y->wk1 ar r x y/\wf1 b r y:=by
 induction ys with
 |nil=>
  intro xs h _
  cases xs with
  |nil=>exact⟨rfl,λi x y hx=>Ik⟩
  |cons x xr=>exact(h:False).elim
 |cons y c e=>
  intro xs h d
  cases xs with
  |nil=>exact(h:False).elim
  |cons x xr=>
   obtain⟨m,f⟩:=(h:wk1 ar r x y/\wkL ar r c xr);obtain⟨j,g⟩:=(d:wf1 b r y/\wfL b r c);obtain⟨l,k⟩:=e f g;grind
theorem bT8(inv:Inv T Φ σ a w G){v:Value}{x y:V}(k:Rv w G v x)(e:x.ok σ.hasB σ.hasA)(h:wkV σ.ar r x y)(j:wfV b r y)(τ:St)(o:τ.bx=b)(q:τ.ar=r):
 Rv w (xI σ G) v y/\y.ok τ.hasB τ.hasA:=by
 unfold wkV at h;split at h
 ·rename_i ys
  split at h
  ·rename_i xs
   obtain⟨q1,n⟩:=bL3 h j;obtain⟨cs,rfl,m,l,g⟩:=k.zV;simp only[V.ok]at e
   have d:∀(i:Nat) c y,cs[i]? =some c->ys[i]? =some y->Rv w (xI σ G) c y/\y.ok τ.hasB τ.hasA:=by
    intro i c y f hy;have hi:i<xs.length:=Fa;grind [aG3,aH,Tm]
   refine⟨.agg cs ys Aa l λi c y f hy=>(d i c y f hy).1,?_⟩;simp only[V.ok];rw[aH];intro y hy;obtain⟨i,hi⟩:=QY hy;have hlt:i<cs.size:=by rw[m,q1];exact(QD.1 hi).1
   exact(d i cs[i] y Iw hi).2
  ·exact h.elim
 ·grind [aG3,wfV]
theorem dT6{d:Type}{c:d}{l:List (Nat×d)}(s:Nat):ofL c l s=c\/∃p∈l,p.1=s/\ofL c l s=p.2:=by
 induction l with
 |nil=>exact .inl rfl
 |cons p q f=>
  have e:ofL c (p::q) s=cond (Nat.beq s p.1) p.2 (ofL c q s):=rfl;grind [Nat.beq,Sj]
theorem aF5{c:Type}{l:List (Nat×c)}{s:Nat}{x:c}(h:ofO l s=some x):∃p∈l,p.1=s/\p.2=x:=by
 induction l with
 |nil=>cases h
 |cons p q e=>
  have d:ofO (p::q) s=cond (Nat.beq s p.1) (some p.2) (ofO q s):=rfl;grind [Nat.beq,Sj]
theorem cP0{e:List (Nat×V)}(h:wkE σ b r e):∀p∈e,wkV σ.ar r (σ.env p.1) p.2/\wfV b r p.2:=by
 induction e with
 |nil=>intro p hp;cases hp
 |cons q l ih=>
  obtain⟨h1,h2⟩:=(h:(wkV σ.ar r (σ.env q.1) q.2/\wfV b r q.2)/\wkE σ b r l);intro p hp;exact PY
theorem cF4{l:List (Nat×List V)}(h:wkB σ b r l):∀p∈l,∃cs,σ.bx p.1=some cs/\wkL σ.ar r p.2 cs/\wfL b r p.2:=by
 induction l with
 |nil=>intro p c;cases c
 |cons q l d=>
  obtain⟨f,e⟩:=(h:(match σ.bx q.1 with|some cs=>wkL σ.ar r q.2 cs/\wfL b r q.2|none=>False)/\wkB σ b r l)
  intro p c;rcases QO.1 c with rfl|c
  ·grind
  ·exact d e p c
theorem cO0{l:List (Nat×AE)}(h:wkA T σ l):∀p∈l,wkAE T (σ.ar p.1) p.2:=by
 induction l with
 |nil=>intro p hp;cases hp
 |cons q l ih=>
  obtain⟨h1,h2⟩:=(h:wkAE T (σ.ar q.1) q.2/\wkA T σ l);intro p hp;exact PY
theorem cR3(inv:Inv T Φ σ a w G){k:Nat}{c en:AE}(d:σ.ar k=some c)(i:c.gen=en.gen)(h:bX7 c.kind en.kind)(e:c.ty=en.ty)(f:c.l=en.l):gW T w G k en:=by
 have g:=inv.arr k c d;grind [bX7,gW]
def has8(o p:Option AE):Prop:=match o with|none=>True|some _=>(match p with|some _=>True|none=>False)
def aN5(o p:Option (List V)):Prop:=match o with|none=>True|some _=>(match p with|some _=>True|none=>False)
def wk8b(ar r:Nat->Option (List V)):Prop:=aN5 (ar 100000) (r 100000)/\aN5 (ar 100001) (r 100001)/\aN5 (ar 100002) (r 100002)/\aN5 (ar 100003) (r 100003)/\aN5 (ar 100004) (r 100004)/\aN5 (ar 100005) (r 100005)/\aN5 (ar 100006) (r 100006)/\aN5 (ar 100007) (r 100007)
theorem dS5{ar r:Nat->Option (List V)}(h:wk8b ar r){j:Nat}(l:100000<=j/\j<100008){en:List V}(m:ar j=some en):∃c,r j=some c:=by
 have key:∀ {o p:Option (List V)},aN5 o p->o=some en->∃c,p=some c:=by
  intro o p h ho;exact PK
 obtain⟨g,q,n,i,k,d,e,f⟩:=h;grind
def wk8(ar r:Nat->Option AE):Prop:=has8 (ar 0) (r 0)/\has8 (ar 1) (r 1)/\has8 (ar 2) (r 2)/\has8 (ar 3) (r 3)/\has8 (ar 4) (r 4)/\has8 (ar 5) (r 5)/\has8 (ar 6) (r 6)/\has8 (ar 7) (r 7)
theorem dT9{ar r:Nat->Option AE}(h:wk8 ar r){j:Nat}(m:j<8){en:AE}(c:ar j=some en):∃d,r j=some d:=by
 have key:∀ {o p:Option AE},has8 o p->o=some en->∃d,p=some d:=by
  intro o p h ho;exact PK
 obtain⟨i,q,n,k,l,e,f,g⟩:=h
 match j,m with
 |0,_=>exact key i c
 |1,_=>exact key q c
 |2,_=>exact key n c
 |3,_=>exact key k c
 |4,_=>exact key l c
 |5,_=>exact key e c
 |6,_=>exact key f c
 |7,_=>exact key g c
theorem dV{e:List (Nat×V)}{n:List (Nat×List V)}{o:List (Nat×AE)}(P:wk8 σ.ar (ofO o)/\wk8b σ.bx (ofO n))(S:wkA T σ o)(R:wkB σ (ofO n) (ofO o) n)(O:wkE σ (ofO n) (ofO o) e):Le T σ (mkSt e n o):=by
 unfold Le;intro Φ a w G inv;have D:∀s,(mkSt e n o).env s= .bot\/∃p∈e,p.1=s/\(mkSt e n o).env s=p.2:=λs=>dT6 s;have C:∀k g,σ.hasA k g->(xI σ G).av k g=G.av k g:=λk g h=>eB6 h
 refine⟨xI σ G,?_⟩;refine {nd:=inv.nd,kp:=inv.kp,sz:=inv.sz,env:= ?_,wfE:= ?_,box:= ?_,wfB:= ?_,arr:= ?_,wfA:= ?_,tag:=inv.tag,mineB:=inv.mineB,mineA:=inv.mineA,fzm:=inv.fzm,F0:=inv.F0,lay:=inv.lay,frame:=inv.frame,size:=inv.size,os:=inv.os,tape:=inv.tape,output:=inv.output,args:=λj v h=>⟨(C j 0 ⟨_,(inv.args j v h).2.2.choose_spec,Ro _⟩).trans (inv.args j v h).1,(inv.args j v h).2.1,dT9 P.1 (inv.args j v h).2.1 (inv.args j v h).2.2.choose_spec⟩,argb:=λi F h=>⟨(inv.argb i F h).1,(inv.argb i F h).2.1,dS5 P.2 (inv.argb i F h).2.1 (inv.argb i F h).2.2.choose_spec⟩}
 ·intro s
  rcases D s with h|⟨p,l,rfl,h⟩
  ·rw[h];exact .bot _
  ·rw[h]
   obtain⟨u,q⟩:=cP0 O p l;exact(bT8 inv (inv.env p.1) (inv.wfE p.1) u q (mkSt e n o) rfl rfl).1
 ·intro s
  rcases D s with h|⟨p,l,rfl,h⟩
  ·rw[h];simp only[V.ok]
  ·rw[h]
   obtain⟨u,q⟩:=cP0 O p l;exact(bT8 inv (inv.env p.1) (inv.wfE p.1) u q (mkSt e n o) rfl rfl).2
 ·intro i cs hi
  obtain⟨p,l,rfl,rfl⟩:=aF5 hi;obtain⟨d,f,u,q⟩:=cF4 R p l;obtain⟨c,t,N,A,Q⟩:=inv.box p.1 d f;obtain⟨q1,J⟩:=bL3 u q;refine⟨c,t,N,⟨by rw[A.len,q1],A.one,λi v y hv hy=>?_⟩,Q⟩
  have hlt:i<d.length:=Fa;have m:d[i]? =some d[i] :=Iw
  obtain⟨K,L⟩:=J i d[i] y m hy;exact(aG3 inv (A.rel i v d[i] hv m) (aH.1 (inv.wfB p.1 d f) _ (Tm hlt)) K L (mkSt e n o) rfl rfl).1
 ·intro i cs hi
  obtain⟨p,l,rfl,rfl⟩:=aF5 hi;obtain⟨d,f,u,q⟩:=cF4 R p l;obtain⟨c,t,N,A,Q⟩:=inv.box p.1 d f;obtain⟨q1,J⟩:=bL3 u q;rw[aH];intro y hy;obtain⟨i,E⟩:=QY hy;have hlt:i<d.length:=by rw[q1];exact(QD.1 E).1
  have m:d[i]? =some d[i] :=Iw;have X:i<c.toList.length:=by rw[A.len];exact hlt
  obtain⟨K,L⟩:=J i d[i] y m E;exact(aG3 inv (A.rel i c.toList[i] d[i] Ae m) (aH.1 (inv.wfB p.1 d f) _ (Tm hlt)) K L (mkSt e n o) rfl rfl).2
 ·intro k en H
  obtain⟨p,l,rfl,rfl⟩:=aF5 H;have h:=cO0 S p l;unfold wkAE at h;split at h
  ·rename_i B z
   have I:=cR3 inv z h.1 h.2.1 h.2.2.1 h.2.2.2;refine I.keep (bD1 σ w G) ?_ ?_ (λb W=>⟨W,rfl⟩)
   ·rw[<-h.2.2.2];exact inv.wfA _ _ z
   ·exact C _ _ ⟨B,z,Aa⟩
  ·rename_i z
   obtain⟨u,q,U⟩:=h;have x:(xI σ G).av p.1 p.2.gen= .slice none 0 0:=by simp[xI,z]
   have hlt:=blt U;unfold gW;split
   ·rw[q];trivial
   ·rename_i M;rw[M]at u;exact u.elim
   ·rw[x,q];exact⟨hlt, .inl ⟨.inl rfl,rfl⟩⟩
   ·rw[x,q];exact⟨hlt, .inl (.inl ⟨.inl rfl,rfl⟩)⟩
 ·intro k en H
  obtain⟨p,l,rfl,rfl⟩:=aF5 H;have h:=cO0 S p l;unfold wkAE at h;split at h
  ·rename_i B z
   rw[<-h.2.2.2];exact inv.wfA _ _ z
  ·rw[h.2.1];simp only[V.okL]
end
section
variable{T:Tab}{P:Program}{Φ:Fr}{σ:St}{a:Act}{w w':World}{G G':Gh}{K:VK}{o:Oper}{d:Nat}
structure retN(T:Tab)(σ:St)(rs:List ResultVar)(cells:List V):Prop where
 out:aH3 T σ rs λxs=>match xs with
  | [.box i 0] =>match σ.bx i with
    |some cs=>iQ T σ.ar cells cs/\iR cs cells=true/\allR (λy=> !linear y) cells=true
    |none=>False
  |_=>False
def fnVCN(T:Tab)(P:Program)(fn:Func)(ys:List V)(cells:List V):Prop:=
 match fn.body with
 |some c=>nH T P fn.ntmps c (uD ys) λe σ=>match e with
  | .normal=>retN T σ fn.results.toList cells
  | .ret=>retN T σ fn.results.toList cells
  |_=>False
 |none=>False
end
section
variable{T:Tab}{P:Program}{σ:St}
theorem eY7{x y:aA2}{Q:Exit->St->Prop}(h:x σ λe a=>match e with
 | .normal=>y a Q
 |e=>Q e a):dG2 T x y σ Q:=by refine⟨?_⟩;exact .inl h
theorem dJ4{x y:aA2}{Q:Exit->St->Prop}(A:Type)(st:A->St)(inv:A->Prop)(h:x σ λe a=>match e with
 | .normal=>∃p,Le T a (st p)/\inv p
 |e=>Q e a)(b:∀p,inv p->y (st p) Q):dG2 T x y σ Q:=by refine⟨?_⟩;exact .inr ⟨⟨A,st,inv,λ_=>0⟩,h,b⟩
theorem lD{x:aA2}{Q:Exit->St->Prop}{A:Type}(st:A->St)(inv:A->Prop)(m:A->Nat)(b:A)(c:Le T σ (st b))(d:inv b)(h:∀p,inv p->x (st p) λe a=>match e with
 | .normal=>∃p',Le T a (st p')/\inv p'/\m p'<m p
 |e=>Q e a):bI0 T x σ Q:=by refine⟨?_⟩;exact⟨⟨A,st,inv,m⟩,⟨b,c,d⟩,h⟩
theorem jU{b:Bool}{A B:Prop}(c:b=true->A)(a:b=false->B):branch b A B:=by
 cases b
 ·exact a rfl
 ·exact c rfl
theorem dC8{a b:Int}:ltB a b=true↔a<b:=by unfold ltB;simp
theorem eU6{a b:Int}:ltB a b=false↔b<=a:=by unfold ltB;simp
theorem bV6{a b:Int}:leB a b=true↔a<=b:=by unfold leB;simp
theorem eU7{a b:Int}:leB a b=false↔b<a:=by unfold leB;simp
theorem aA1{a b:Int}:eqB a b=true↔a=b:=by unfold eqB;simp
theorem dY0{a b:Int}:eqB a b=false↔a≠b:=by unfold eqB;simp
theorem eQ7(a b:Bool):andB a b=(a&&b):=by unfold andB;rfl
theorem cA1(a b:Bool):eqBB a b=(a==b):=by unfold eqBB;rfl
theorem br_lt{a b:Int}{A B:Prop}(d:a<b->A)(c:b<=a->B):branch (ltB a b) A B:=jU (λh=>d (dC8.1 h)) (λh=>c (eU6.1 h))
theorem br_le{a b:Int}{A B:Prop}(d:a<=b->A)(c:b<a->B):branch (leB a b) A B:=jU (λh=>d (bV6.1 h)) (λh=>c (eU7.1 h))
theorem eV7{a b:Int}{A B:Prop}(d:a=b->A)(c:a≠b->B):branch (eqB a b) A B:=jU (λh=>d (aA1.1 h)) (λh=>c (dY0.1 h))
theorem eZ2{b:Bool}{A B:Prop}(h:branch b B A):branch (!b) A B:=by cases b<;>exact h
theorem mG(a b:Int):maxI a b=max a b:=by unfold maxI;split<;>omega
theorem lH(a b:Int):minI a b=min a b:=by unfold minI;split<;>omega
theorem eH4{n:Int}{K:Int->Prop}(h: -9223372036854775808<=n/\n<=9223372036854775807)(a:K n):arith .i64 n K:=by
 refine⟨?_⟩;rw[show IntKind.wrap .i64 n=n from IntWalk.i64_in _ Aa];exact a
theorem fU{p K:Prop}(h:p)(a:K):need p K:=by refine⟨?_⟩;exact⟨h,a⟩
theorem eQ9{a:Type}{f:a->V}{l:List a}{i:Nat}{K:V->Prop}(hi:i<l.length)(h:∀x,l[i]? =some x->K (f x)):idx (l.map f) i K:=by
 refine⟨?_⟩;exact⟨f l[i],by simp[hi],h _ (by simp[hi])⟩
theorem dE3{l:List V}{i:Nat}{K:V->Prop}(x:V)(h:l[i]? =some x)(a:K x):idx l i K:=by refine⟨?_⟩;exact⟨x,h,a⟩
theorem eZ1{T:Tab}{env:Nat->V}{ops:List Oper}{K:List (Nat×List Nat)->Prop}(h:cP6 T ops=true)(a:K []):aC9 T env ops K:=by refine⟨?_⟩;exact⟨[],[],trivial,h,a⟩
theorem cC0{T:Tab}{env:Nat->V}{ops:List Oper}{K:List (Nat×List Nat)->Prop}(a:List (Nat×Nat))(c:cO4 a env)(h:oO T a [] ops=true)(b:K []):aC9 T env ops K:=by refine⟨?_⟩;exact⟨a,[],c,h,b⟩
theorem bW8{T:Tab}{env:Nat->V}{ops:List Oper}{K:List (Nat×List Nat)->Prop}(a:List (Nat×Nat))(hv:List (Nat×List Nat))(b:cO4 a env)(h:oO T a hv ops=true)(c:K hv):aC9 T env ops K:=by refine⟨?_⟩;exact⟨a,hv,b,h,c⟩
theorem aS5{a:Md}{d:Nat}{f:FuncId}{xs ys:List V}{r:V}{K:VK}(c:Spec T P f ys r)(lend:Bool)(g:iQ T σ.ar ys xs)(e:sO a.light lend xs ys r=true)
 (h:zZ σ d (reuse σ (bD ys xs)) r λv b=>K v (appR (cond lend [] (aV σ (bK ys xs))) (appR (aX σ (bD ys xs)) b))):kY T P a σ d f xs K:=by
 refine⟨.inl ?_⟩;exact⟨ys,r,lend,g,e,c,h⟩
theorem aQ2{d:Nat}{f:FuncId}{xs ys:List V}{r:V}{K:VK}{j k g:Nat}{e:TypeId}{l b:List V}(i:bE5 T P f ys r j e b)(c:ys[j]? =some (.own e l))(h:xs[j]? =some (.arr k g))(n:iQ T σ.ar ys xs)(m:sO false false xs ys r=true)(o:aH7 r=true)
 (p:K r (appR (aV σ (bK ys xs)) (appR (aX σ (bD ys xs)) [.a k ⟨g, .own,e,b⟩]))):kY T P .free σ d f xs K:=by
 refine⟨.inr (.inl ⟨rfl,ys,r,j,k,g,e,l,b,n,m,i,c,h,o,p⟩)⟩
theorem fC9{a:Md}{d:Nat}{f:FuncId}{xs ys:List V}{bs b:List (List V)}{r:V}{K:VK}(g:aU2 T P f ys bs r b)(is:List Nat)(c:a.may d is ((xs,ys)::eU σ.bx bs is)=true)(i:xM T σ.ar is ((xs,ys)::eU σ.bx bs is))(h:zA σ.bx ((xs,ys)::eU σ.bx bs is) is bs r=true)
 (j:aX2 σ.bx σ.ar is (ownG ((xs,ys)::eU σ.bx bs is)) d r b λv e=>K v (appR (aV σ (mF ((xs,ys)::eU σ.bx bs is))) (appR (aX σ (ownG ((xs,ys)::eU σ.bx bs is))) e))):kY T P a σ d f xs K:=by
 refine⟨.inr (.inr (.inl ⟨ys,is,bs,r,b,c,i,h,g,j⟩))⟩
theorem fA7{rs:List ResultVar}{r:V}{bs:List (List V)}(h:aH3 T σ rs λxs=>match xs with
 | [x] =>xM T σ.ar (iP bs 0) (([x],[r])::eU σ.bx bs (iP bs 0))/\aT2 σ.bx (([x],[r])::eU σ.bx bs (iP bs 0)) (iP bs 0)=true/\(∀rs,r≠ .tup rs)
 |xs=>∃ys,r= .tup ys/\xM T σ.ar (iP bs 0) ((xs,ys)::eU σ.bx bs (iP bs 0))/\aT2 σ.bx ((xs,ys)::eU σ.bx bs (iP bs 0)) (iP bs 0)=true):retB T σ rs r bs:=⟨h⟩
theorem cA7{rs:List ResultVar}{r:V}{j:Nat}{e:TypeId}{l:List V}(h:aH3 T σ rs λxs=>match xs with
 | [x] =>iQ T σ.ar [r, .own e l] [x, .arr j 0]/\iR [x, .arr j 0] [r, .own e l] =true/\aH7 r=true/\(∀rs,r≠ .tup rs)
 |xs=>∃ys,r= .tup ys/\iQ T σ.ar (appR ys [.own e l]) (appR xs [.arr j 0])/\iR (appR xs [.arr j 0]) (appR ys [.own e l])=true):dC6 T σ rs r j e l:=⟨h⟩
theorem ret_i{rs:List ResultVar}{r:V}(h:aH3 T σ rs λxs=>match xs with
 | [x] =>iQ T σ.ar [r] [x]/\iR [x] [r] =true/\(∀rs,r≠ .tup rs)
 |xs=>∃ys,r= .tup ys/\iQ T σ.ar ys xs/\iR xs ys=true):dF3 T σ rs r:=by refine⟨.inl ?_⟩;exact h
theorem gI0{rs:List ResultVar}{r:V}(h:aH3 T σ rs λxs=>match xs with
 | [x] =>∃ys cs,r= .tup (.bot::ys)/\x= .agg cs/\iQ T σ.ar ys cs/\iR cs ys=true
 |_=>False):dF3 T σ rs r:=by refine⟨.inr ?_⟩;exact h
theorem aP{ar:Nat->Option AE}{u a:Value}(h:a=u):iQ T ar [.lit u] [.lit a]/\iR [.lit a] [.lit u] =true/\(∀rs,(V.lit u)≠ .tup rs):=⟨⟨h,trivial⟩,rfl,λ_ h=>Ah⟩
theorem aG{ar:Nat->Option AE}{k:IntKind}{n a:Int}(h:a=n):iQ T ar [.lit (.int k n)] [.lit (.int k a)]/\iR [.lit (.int k a)] [.lit (.int k n)] =true/\(∀rs,(V.lit (.int k n))≠ .tup rs):=aP (by rw[h])
theorem aK{ar:Nat->Option AE}{n a:Bool}(h:a=n):iQ T ar [.lit (.bool n)] [.lit (.bool a)]/\iR [.lit (.bool a)] [.lit (.bool n)] =true/\(∀rs,(V.lit (.bool n))≠ .tup rs):=aP (by rw[h])
theorem eY0{en:AE}{g:Nat}{K:Prop}(c:en.gen=g)(b:en.kind≠ .dead)(a:K):need (en.gen=g/\en.kind≠ .dead) K:=fU ⟨c,b⟩ a
theorem iH{en:AE}{g e a size:Nat}{xs:List V}{K:Prop}(f:en.gen=g)(j:en.kind= .own\/en.kind= .ap)(c:en.ty=e)(d:a<=10000)(k:∀x∈xs,x.cells.length=size)(b:en.l.length+xs.length<=1000000000)(i:K):
 need (en.gen=g/\(en.kind= .own\/en.kind= .ap)/\en.ty=e/\(en.l.length+xs.length)*a<=140737488355328/\en.l.length+xs.length<=140737488355328/\∀x∈xs,x.cells.length=size) K:=
 fU ⟨f,j,c,QV (U5 b d) Ai,Aa,k⟩ i
theorem gX{a size:Nat}{xs:List V}{K:Prop}(b:a<=10000)(e:∀x∈xs,x.cells.length=size)(c:xs.length<=1000000000)(d:K):
 need (xs.length*a<=140737488355328/\xs.length<=140737488355328/\∀x∈xs,x.cells.length=size) K:=
 fU ⟨QV (U5 c b) Ai,Aa,e⟩ d
theorem dA{x:V}{n:Nat}(h:x.cells.length=n):∀y∈[x],y.cells.length=n:=λy a=>by cases QI.1 a;exact h
theorem Le.trans{c b a:St}(e:Le T c b)(d:Le T b a):Le T c a:=by
 grind [Le]
theorem eV6{es:List V}{s:Value}{z:V}{K:V->Prop}{v:V}(h:(jG s es).getD z=v)(k:K v):eG6 es s z K:=⟨by rw[h];exact k⟩
theorem eS1{f:Operand}{g:FuncId}{b:List V}{m l:List Nat}{x y:aA2}{Q:Exit->St->Prop}(a:List (List V))(o:aB0 T P g b a)(s:∀j∈a,j.length=m.length){A:Type}(st:A->St)(inv:Nat->A->Prop)(d:A)
 (q:Le T σ (st d))(u:inv 0 d)(r:(st d).ev f= .fn g b)(h:∀k p j,inv k p->a[k]? =some j->x ⟨cM2 m j (st p).env,(st p).bx,(st p).ar⟩ λe n=>match e with
  | .normal=>y n λe c=>match e with
    | .normal=>∃p',Le T (sJ l c) (st p')/\inv (k+1) p'
    | .ret=>Q .ret (sJ l c)
    | .exit i=>Q (.exit i) (sJ l c)
    |_=>False
  |_=>False)(t:∀p,inv a.length p->Q .normal (st p)):aO0 T P f g b m l x y σ Q:=⟨a,o,s,A,st,inv,⟨d,q,u,r⟩,h,t⟩
theorem fB{k:Nat}{en:AE}(h:σ.ar k=some en)(c:en.kind= .own\/en.kind= .ap):Le T σ (σ.apps [.a k ⟨en.gen, .frz,en.ty,en.l⟩]):=by
 unfold Le;intro Φ a w G inv;obtain⟨O',b,_,_⟩:=inv.freeze h c;exact⟨_,b⟩
def aL5(k g:Nat)(l:List V)(x:V):V:=match x with
 | .arr j g'=>cond (Nat.beq j k) (cond (Nat.beq g' g) (.sl l) .bot) (.arr j g')
 |x=>x
def eE7(k g:Nat)(l:List V)(x:V):V:=match x with
 | .arr j g'=>cond (Nat.beq j k) (cond (Nat.beq g' g) (.sl l) .bot) (.arr j g')
 | .agg xs=> .agg (mapR (aL5 k g l) xs)
 |x=>x
def fD0(k:Nat)(en:AE)(σ:St):St:=⟨λs=>eE7 k en.gen en.l (σ.env s),σ.bx,upd σ.ar k (some ⟨en.gen, .frz,en.ty,en.l⟩)⟩
theorem cM9{w:World}{G:Gh}{k g:Nat}{l:List V}{v:Value}{x:V}(hl:Rv w G (G.av k g) (.sl l))(h:Rv w G v x):Rv w G v (aL5 k g l x):=by
 unfold aL5;split
 ·exact J5
 ·exact h
theorem cJ0{p:Nat->Prop}{q:Nat->Nat->Prop}{k g:Nat}{l:List V}{x:V}(a:bM l)(h:x.ok p q):(aL5 k g l x).ok p q:=by
 unfold aL5;grind [Nat.beq,V.ok]
theorem eJ7{w:World}{G:Gh}{k g:Nat}{l:List V}{v:Value}{x:V}(e:Rv w G (G.av k g) (.sl l))(h:Rv w G v x):Rv w G v (eE7 k g l x):=by
 cases x with
 |agg xs=>
  show Rv w G v (.agg (mapR (aL5 k g l) xs));rw[dU]
  cases h with
  |agg cs _ a d n=>
   refine .agg cs _ (by simp[a]) d (λi c y m b=>?_)
   rw[Rk]at b;grind [cM9]
 |arr j f=>exact cM9 e h
 |_=>exact h
theorem eG5{p:Nat->Prop}{q:Nat->Nat->Prop}{k g:Nat}{l:List V}{x:V}(a:bM l)(h:x.ok p q):(eE7 k g l x).ok p q:=by
 cases x with
 |agg xs=>
  show(V.agg (mapR (aL5 k g l) xs)).ok p q;grind [dU,aH,cJ0,V.ok]
 |arr j b=>exact cJ0 a h
 |_=>exact h
theorem aZ8(k:Nat){en:AE}(h:σ.ar k=some en)(e:en.kind= .own\/en.kind= .ap):Le T σ (fD0 k en σ):=by
 unfold Le;intro Φ a w G inv;obtain⟨O',b,_,_⟩:=inv.freeze h e;have d:=inv.wfA k en h;have c:Rv w {G with O:=O'} (G.av k en.gen) (.sl en.l):=b.arr k ⟨en.gen, .frz,en.ty,en.l⟩ (upd_same _ _ _)
 refine⟨_,{b with env:=λs=>?_,wfE:=λs=>?_}⟩
 ·exact eJ7 c (b.env s)
 ·exact eG5 d (b.wfE s)
def meltM(k g:Nat)(v:V)(x:V):V:=match x with
 | .arr j g'=>cond (Nat.beq j k) (cond (Nat.beq g' g) v .bot) (.arr j g')
 |x=>x
def meltMap(k g:Nat)(ty:TypeId)(v:V)(σ:St):St:=⟨λs=>meltM k g v (σ.env s),λi=>match σ.bx i with|none=>none|some l=>some (mapR (meltM k g v) l),upd σ.ar k (some ⟨g, .dead,ty,[]⟩)⟩
theorem meltM_rv{w:World}{G:Gh}{k g:Nat}{u:V}{v:Value}{x:V}(hl:Rv w G (G.av k g) u)(h:Rv w G v x):Rv w G v (meltM k g u x):=by
 unfold meltM;split
 ·exact J5
 ·exact h
theorem meltM_ok{p:Nat->Prop}{q:Nat->Nat->Prop}{k g:Nat}{u:V}{x:V}(a:u.pure)(h:x.ok p q):(meltM k g u x).ok p q:=by
 unfold meltM;split
 ·rename_i j b
  cases d:Nat.beq j k with
  |false=>exact h
  |true=>
   cases c:Nat.beq b g with
   |false=>simp only[cond,V.ok]
   |true=>exact a.ok _ _
 ·exact h
theorem le_frzm(k:Nat){g:Nat}{ty:TypeId}{es:List V}(e:Value)(h:σ.ar k=some ⟨g, .dead,ty, .bot::es⟩)(L:cD3 (T.row (T.row ty).alen).kd e=true):Le T σ (meltMap k g ty (V.mapV e es) σ):=by
 unfold Le;intro Φ a w G inv;have F:=inv.arr k _ h;have N:bM es:=by have:=inv.wfA k _ h;simp only[bM,V.okL]at this;exact this.2
 have hd:=lit_key L;obtain⟨b,f,n,C,H,S,R,Q⟩:=(F:bL6 _ w G k _ es);rw[<-hd]at R Q
 let O':Nat->Tag:=λb=>match G.O b with| .ar j=>if j=k then .fz else .ar j|t=>t
 have u:∀b,G.O b≠ .ar k->O' b=G.O b:=by
  grind
 have E:∀b,G.O b= .ar k->O' b= .fz:=by
  grind
 have I:Keep w w G {G with O:=O'}:=⟨λb hb=>(u b AP).trans hb,λ_ _=>rfl⟩
 have d:Inv T Φ (σ.apps [.a k ⟨g, .dead,ty,[]⟩]) a w {G with O:=O'}:=by
  refine inv.zU (w':=w) (k:=k) (en:=⟨g, .dead,ty,[]⟩) (av':=G.av) (O':=O') (λg' ⟨W,C,H⟩=>by rw[h]at C;cases C;exact H) (λ_ _ _=>rfl) Gv trivial (λb _ hb=>u b hb) ?_ (λ_ _ _=>rfl) (QH _) rfl rfl rfl
  grind
 let val:Value->Value:=λs=>match Instr.findNow (litD e) s f.toList 0 with|some (some (_,v))=>v|_=>undef
 have q6:∀s x,MapKept.IsKey (litD e) s->jG s es=some x->∃i,Instr.findNow (litD e) s f.toList 0=some (some (i,val s))/\(val s).oneCell'=true/\Rv w G (val s) x:=by
  grind
 have r:Rv w {G with O:=O'} (G.av k g) (V.mapV e es):=by
  rw[C];refine .mp b f n 0 e es val (E b H) S R (λs B m=>?_) (λs x B m=>?_) (λs x B m=>?_)
  ·have:=Q s B
   rw[m]at this;exact this
  ·simp_all
  ·obtain⟨i,r1,r2,X⟩:=q6 s x B m
   exact X.aW I (assoc_pure N m)
 have A:(V.mapV e es).pure:=by simp only[V.mapV,V.pure,V.ok,V.okL,Uo,true_and];exact N
 have K:∀i,(σ.apps [.a k ⟨g, .dead,ty,[]⟩]).hasB i->(meltMap k g ty (V.mapV e es) σ).hasB i:=λi ⟨l,q⟩=>⟨mapR (meltM k g (V.mapV e es)) l,by
  show(match σ.bx i with|none=>none|some l=>some (mapR (meltM k g (V.mapV e es)) l))=_
  have J:σ.bx i=some l:=q;rw[J]⟩
 have bx:∀i cs,(meltMap k g ty (V.mapV e es) σ).bx i=some cs->∃l,σ.bx i=some l/\cs=l.map (meltM k g (V.mapV e es)):=by
  intro i cs hi;have aa:(match σ.bx i with|none=>none|some l=>some (mapR (meltM k g (V.mapV e es)) l))=some cs:=hi
  grind [dU]
 refine⟨_,{d with env:=λs=>?_,wfE:=λs=>?_,box:=λi cs hi=>?_,wfB:=λi cs hi=>?_,argb:=λi b hb=>?_}⟩
 ·exact meltM_rv r (d.env s)
 ·exact V.ok.imp K (λ_ _ h=>h) _ (meltM_ok A (d.wfE s))
 ·obtain⟨l,q,rfl⟩:=bx i cs hi
  obtain⟨c,t,Y,D,g3⟩:=d.box i l q;refine⟨c,t,Y,⟨by simpa using D.len,D.one,λj v x hv m=>?_⟩,g3⟩
  rw[Rk]at m
  cases o:l[j]? with
  |none=>rw[o]at m;cases m
  |some y=>
   rw[o]at m;cases m;exact meltM_rv r (D.rel j v y hv o)
 ·obtain⟨l,q,rfl⟩:=bx i cs hi
  refine aH.2 λy o=>?_;obtain⟨z,L,rfl⟩:=QZ.1 o;exact V.ok.imp K (λ_ _ h=>h) _ (meltM_ok A (aH.1 (d.wfB i l q) z L))
 ·obtain⟨Z,h2,cs,h3⟩:=d.argb i b hb
  obtain⟨M,U⟩:=K i ⟨cs,h3⟩;exact⟨Z,h2,M,U⟩
theorem bB4{K:St->Prop}{a:St}(h:Le T σ a)(b:K a):cR5 T σ K:=⟨⟨a,h,b⟩⟩
end
end Go.Ab
