/- Lemmas. -/
import Derived.Test.YtcmgfjaiegpddaaGreatA9
import Derived.KernelRfl
set_option linter.all false
noncomputable section
namespace Go.Ab
def kW(b:List V):Nat->List V:=
 List.rec (motive:=λ_=>Nat->List V) (λ_=> []) (λy _ ih t=>cond (linear y) (.arr t 0) y::ih (t+1)) b
def bB3(bs:List (List V)):Nat->Nat->Option (List V):=
 List.rec (motive:=λ_=>Nat->Nat->Option (List V)) (λ_ _=>none) (λb _ ih j s=>cond (Nat.beq s (100000+j)) (some (kW b (100000*(j+1)))) (ih (j+1) s)) bs
def vT(bs:List (List V)):Nat->Nat->Option AE:=
 List.rec (motive:=λ_=>Nat->Nat->Option AE) (λ_ _=>none) (λb _ ih j s=>match jK b (100000*(j+1)) s with|some en=>some en|none=>ih (j+1) s) bs
def aG1(ys:List V)(bs:List (List V)):St:=⟨pF ys 0,bB3 bs 0,λs=>match jK ys 0 s with|some en=>some en|none=>vT bs 0 s⟩
def iP(bs:List (List V)):Nat->List Nat:=List.rec (motive:=λ_=>Nat->List Nat) (λ_=> []) (λ_ _ ih j=>(100000+j)::ih (j+1)) bs
def aT2(bx:Nat->Option (List V))(gs:Grp)(is:List Nat):Bool:=aE7 (ownG gs)&&allR (λk=> !memR k (mF gs)) (ownG gs)&&allR (λi=>isS (bx i)) is
structure retB(T:Tab)(σ:St)(rs:List ResultVar)(r:V)(bs:List (List V)):Prop where
 out:aH3 T σ rs λxs=>match xs with
  | [x] =>xM T σ.ar (iP bs 0) (([x],[r])::eU σ.bx bs (iP bs 0))/\aT2 σ.bx (([x],[r])::eU σ.bx bs (iP bs 0)) (iP bs 0)=true/\(∀rs,r≠ .tup rs)
  |xs=>∃ys,r= .tup ys/\xM T σ.ar (iP bs 0) ((xs,ys)::eU σ.bx bs (iP bs 0))/\aT2 σ.bx ((xs,ys)::eU σ.bx bs (iP bs 0)) (iP bs 0)=true
def jR(T:Tab)(P:Program)(fn:Func)(ys:List V)(bs:List (List V))(r:V)(bs':List (List V)):Prop:=
 match fn.body with
 |some c=>nH T P fn.ntmps c (aG1 ys bs) λe σ=>match e with
  | .normal=>retB T σ fn.results.toList r bs'
  | .ret=>retB T σ fn.results.toList r bs'
  |_=>False
 |none=>False
section
variable{T:Tab}{P:Program}{Φ:Fr}{σ:St}{a:Act}{w w':World}{G G':Gh}{K:VK}{o:Oper}{d:Nat}
theorem aH4:∀(b:List V) (t q:Nat),(kW b t)[q]? =(b[q]?).map λy=>cond (linear y) (.arr (t+q) 0) y:=by
 intro b;induction b with
 |nil=>intro t q;simp[kW]
 |cons y r c=>
  intro t q;have e:kW (y::r) t=cond (linear y) (.arr t 0) y::kW r (t+1):=rfl;grind
theorem aR6:∀(b:List V) (t:Nat),(kW b t).length=b.length:=by
 intro b;induction b with
 |nil=>intro t;rfl
 |cons y r c=>intro t;exact SK Nat.succ (c (t+1))
theorem bI8:∀(bs:List (List V)) (j s:Nat),bB3 bs j s=if 100000+j<=s then(bs[s- (100000+j)]?).map λb=>kW b (100000*(s-100000+1))else none:=by
 intro bs;induction bs with
 |nil=>intro j s;show none=_;split<;>simp
 |cons b r g=>
  intro j s;show cond (Nat.beq s (100000+j)) (some (kW b (100000*(j+1)))) (bB3 r (j+1) s)=_;by_cases e:s=100000+j;simp_all;have f:Nat.beq s (100000+j)=false:=by rw[<-Uy,Uo];exact e
  rw[f,TW,g];by_cases c:100000+(j+1)<=s;rw[Sj c,Sj Aa];rw[show s- (100000+j)=(s- (100000+(j+1)))+1 from Aa,TB];rw[RZ c,RZ Aa]
def cC7{bs:List (List V)}(y:∀b∈bs,b.length<100000):∀ {j s:Nat} {en:AE},vT bs j s=some en->∃(i q:Nat) (b:List V),bs[i]? =some b/\s=100000*(j+i+1)+q/\q<b.length/\(b[q]? =some (.own en.ty en.l)/\en=⟨0, .own,en.ty,en.l⟩\/b[q]? =some (.ap en.ty en.l)/\en=⟨0, .ap,en.ty,en.l⟩):=by
 induction bs with
 |nil=>intro j s en h;cases h
 |cons b r A=>
  intro j s en h;have g:(match jK b (100000*(j+1)) s with|some en=>some en|none=>vT r (j+1) s)=some en:=h;split at g;rename_i n c;cases g;rw[gY]at c;split at c;rename_i z;split at c;rename_i e l f;cases c;exact⟨0,s-100000*(j+1),b,rfl,Aa,(Si.1 f).1, .inl ⟨f,rfl⟩⟩;rename_i e l f;cases c;exact⟨0,s-100000*(j+1),b,rfl,Aa,(Si.1 f).1, .inr ⟨f,rfl⟩⟩;cases c;cases c;obtain⟨i,q,m,t,u,v,x⟩:=A (λb k=>y b (by simp[k])) g;exact⟨i+1,q,m,t,by rw[u];omega,v,x⟩
def cU9{bs:List (List V)}:∀ {j i q:Nat} {b:List V} {y:V},bs[i]? =some b->b[q]? =some y->linear y=true->∃en,vT bs j (100000*(j+i+1)+q)=some en:=by
 induction bs with
 |nil=>intro j i q b y h;simp at h
 |cons c r k=>
  intro j i q b y hb e g;show∃en,(match jK c (100000*(j+1)) (100000*(j+i+1)+q)with|some en=>some en|none=>vT r (j+1) (100000*(j+i+1)+q))=some en;cases f:jK c (100000*(j+1)) (100000*(j+i+1)+q)with
  |some en=>exact⟨en,rfl⟩
  |none=>
   simp only;cases i with
   |zero=>
    simp at hb;subst hb;rw[gY,Sj Aa,show 100000*(j+0+1)+q-100000*(j+1)=q from Aa,e]at f;cases y<;>simp_all [linear]
   |succ i=>
    have:=k (j:=j+1) (i:=i) (q:=q) Gg e g;grind
theorem bR0:∀(bs:List (List V)) (j i:Nat),(iP bs j)[i]? =if i<bs.length then some (100000+(j+i))else none:=by
 intro bs;induction bs with
 |nil=>intro j i;simp[iP]
 |cons b r c=>
  intro j i;have e:iP (b::r) j=(100000+j)::iP r (j+1):=rfl;grind
def cD7(bs:List (List V)):∀j,(iP bs j).length=bs.length:=by
 induction bs with
 |nil=>intro j;rfl
 |cons b r c=>intro j;exact SK Nat.succ (c (j+1))
def cT3{bx:Nat->Option (List V)}{b:Grp}{is:List Nat}(h:aT2 bx b is=true):(ownG b).Nodup/\(∀k∈ownG b,k∉mF b)/\∀i∈is,∃cs,bx i=some cs:=by
 unfold aT2 at h;simp only[SC]at h;obtain⟨⟨c,f⟩,e⟩:=h;refine⟨uU.1 c,λk g j=>?_,λi hi=>?_⟩;grind [dY,pM];have:=dY.1 e i hi;unfold isS at this;grind
set_option maxHeartbeats 1600000 in
def dR3(inv:Inv T Φ σ a w G){xs ys:List V}{bs:List (List V)}{gs:Grp}(z:gs=(xs,ys)::eU σ.bx bs (iP bs 0))(m:xM T σ.ar (iP bs 0) gs)(J:aT2 σ.bx gs (iP bs 0)=true)(vs:List Value)(aa:∀(i:Nat) v x,vs[i]? =some v->xs[i]? =some x->Rv w G v x/\x.ok σ.hasB σ.hasA):
 ∃Gc:Gh,(∀(j:Nat) v y,vs[j]? =some v->ys[j]? =some y->RbB T w Gc bs.length j v y)/\BxOk T w Gc bs/\Gc.β=G.β/\(∀b,G.O b= .fz->Gc.O b= .fz)/\
  (∀b,Gc.O b≠ .ext->(G.O b= .fz/\Gc.O b= .fz)\/(∃k,G.O b= .ar k)\/(∃i,i<bs.length/\b=G.β (100000+i)/\Gc.O b= .bx (100000+i)))/\xs.length=ys.length:=by
 obtain⟨X,E,B⟩:=cT3 J;have A:(iP bs 0).length=bs.length:=cD7 bs 0;have f:∀(j:Nat),j<bs.length->(iP bs 0)[j]? =some (100000+j):=λj H=>by rw[bR0,Sj H,Uh]
 have U:gs[0]? =some (xs,ys):=by rw[z];rfl
 have W:∀(j:Nat) b,bs[j]? =some b->gs[j+1]? =some ((σ.bx (100000+j)).getD [],b):=by
  intro j b Q;rw[z,TB];exact(aR3 A j _).2 ⟨_,b,f j (Si.1 Q).1,Q,rfl⟩
 have n:∀(γ:Nat) (g:List V×List V),gs[γ]? =some g->g.1.length=g.2.length/\∀(q:Nat) x y,g.1[q]? =some x->g.2[q]? =some y->aP8 T σ.ar (iP bs 0) x y:=λγ g hg=>aB1 (aJ8 m γ g hg);generalize hok:ownG gs=ok at*;generalize Z:mF gs=S at*;let r:Nat->Nat:=λk=> @dite _ (∃t,∃γ q,t=100000*γ+q/\PosG gs γ q k) (Classical.propDecidable _) (λh=>h.choose) (λ_=>0)
 have hpos:∀ {γ q k},PosG gs γ q k->r k=100000*γ+q:=by
  intro γ q k hp;exact Qz
 let Gc:Gh:={G with O:=λb=>match G.O b with| .fz=> .fz| .ar k=>if k∈S then .fz else if k∈ok then .ar (r k)else .ext| .bx i=>if(100000<=i/\i<100000+bs.length)/\b=G.β i then .bx i else .ext| .ext=> .ext};have e:∀b,G.O b= .fz->Gc.O b= .fz:=λb hb=>BP
 have s:∀b i,G.O b= .bx i->(100000<=i/\i<100000+bs.length)/\b=G.β i->Gc.O b= .bx i:=λb i hb h=>by
  simp only[Gc];rw[hb];simp only;rw[Sj h]
 have N:∀b k,G.O b= .ar k->k∈S->Gc.O b= .fz:=λb k hb hk=>DV
 have c_ok:∀b k,G.O b= .ar k->k∈ok->Gc.O b= .ar (r k):=λb k hb hk=>by
  grind
 have I:Keep w w G Gc:=⟨e,λ_ _=>rfl⟩
 have D:∀b i,nth (iP bs 0) (b-100000)=some i->100000<=b->Gc.β b=G.β i:=by
  grind [uN,bR0,TF]
 have u:∀(γ q:Nat) (g:List V×List V) (v:Value) (x y:V),gs[γ]? =some g->g.1[q]? =some x->g.2[q]? =some y->Rv w G v x->x.ok σ.hasB σ.hasA->RbB T w Gc bs.length (100000*γ+q) v y:=by
  intro γ q g v x y hg hx hy hv L;rw[<-A];refine aW7 inv I D ((n γ g hg).2 q x y hx hy) hv L (λhl k hk b hb=>?_) (λhl k hk b hb=>?_);grind [aS8,nP];exact Nl
 refine⟨Gc,?_,?_,rfl,e,?_,(n 0 _ U).1⟩
 ·grind
 ·intro j b hb
  have H:=(Si.1 hb).1;obtain⟨cs,l⟩:=B (100000+j) (Sl (f j H));obtain⟨c,t,q2,M,q4⟩:=inv.box _ cs l;have hg:=W j b hb;rw[l]at hg;simp only[UE]at hg;have F:=(n _ _ hg).1;refine⟨s _ _ q4 ⟨⟨Aa,Aa⟩,rfl⟩,c,t,q2,?_,?_⟩
  ·have:=M.len
   simp only[Tt]at this;rw[this];exact F
  ·intro q v y hv hy
   have Y:q<cs.length:=by
    grind
   have hx:cs[q]? =some cs[q] :=RY Y;have C:c.toList[q]? =some v:=Bd;exact⟨M.one v (Sl C),u (j+1) q _ v _ y hg hx hy (M.rel q v _ C hx) (aH.1 (inv.wfB _ cs l) _ (Sl hx))⟩
 ·intro b hb
  cases R:G.O b with
  |ext=>exfalso;apply hb;simp only[Gc];rw[R]
  |fz=>exact .inl ⟨rfl,e b R⟩
  |ar k=>exact .inr (.inl ⟨k,rfl⟩)
  |bx i=>
   by_cases hi:(100000<=i/\i<100000+bs.length)/\b=G.β i;refine .inr (.inr ⟨i-100000,Aa,?_,?_⟩);grind;grind;grind
set_option maxHeartbeats 3200000 in
def dP3(hT:bP T P)(hm:P.follows .mixedOrders=true){f:FuncId}{fn:Func}(hf:P.funcs[f]? =some fn)(hc:callable P f=true){ys:List V}{bs:List (List V)}{r:V}{z:List (List V)}(hn:ys.length<=fn.ntmps)(a8:fn.ntmps<100000)(h8:bs.length<=8)(ae:∀b∈bs,b.length<100000)(hlens:z.map List.length=bs.map List.length)(h:jR T P fn ys bs r z):aU2 T P f ys bs r z:=by
 refine⟨hc,hlens,?_⟩;intro w G cs hcs ao hbx af aa a3;have ax:z.length=bs.length:=DX;unfold jR at h;split at h;rename_i c Q;let Φ:Fr:=⟨w,λb=>(∃j,G.O b= .ar j)\/(∃i,G.O b= .bx i),λb=>G.O b= .fz,fn.ntmps,λ_=>none,λi=>if 100000<=i/\i<100000+bs.length then some (G.β i)else none,[],λ_=>none⟩;let m:Nat->Nat->Value:=λj q=>match w.heap[G.β (100000+j)]? with|some (.cells c _ _)=>c.getD q undef|_=>undef
 let G0:Gh:={G with av:=λk _=>if k<100000 then cs.getD k undef else m (k/100000-1) (k% 100000)};have ag:∀k,k<100000->G0.av k 0=cs.getD k undef:=λk hk=>by simp only[G0];rw[Sj hk]
 have ah:∀j q,q<100000->G0.av (100000*(j+1)+q) 0=m j q:=λj q hq=>by
  simp only[G0];rw[RZ Aa];rw[show(100000*(j+1)+q)/100000-1=j from Aa,show(100000*(j+1)+q)% 100000=q from Aa]
 have E:Keep w w G G0:=⟨λ_ h=>h,λ_ _=>rfl⟩;have ba:ys.length<100000:=Aa
 have al:∀(j:Nat) y,ys[j]? =some y->RbB T w G bs.length j (cs.getD j undef) y:=by
  intro j y hy;have hj:j<cs.size:=BM;exact aa j _ y Iz hy
 have a4:∀ {j u e l},gJ T w G j u e l->u.oneCell'=true:=by
  intro j u e l h;exact OY
 have a2:∀ {u l},Rv w G u (.cap l)->u.oneCell'=true:=by
  intro u l h;exact Py
 have B:∀ {j v y},RbB T w G bs.length j v y->linear y=false->y.ok (λi=>100000<=i/\i<100000+bs.length) (λ_ _=>False)/\Rv w G0 v y:=by
  intro j v y hr H
  have:y.ok (λi=>100000<=i/\i<100000+bs.length) (λ_ _=>False)/\Rv w G v y:=by
   unfold RbB at hr;grind [linear]
  exact⟨this.1,this.2.keep E this.1 (λ_ _=>rfl) (λ_ _ h=>h.elim)⟩
 have aw:∀ {j v y},RbB T w G bs.length j v y->linear y=true->v.oneCell'=true:=by
  grind [oW,RbB]
 have A:∀(j:Nat) b,bs[j]? =some b->G.O (G.β (100000+j))= .bx (100000+j)/\∃c t,w.heap[G.β (100000+j)]? =some (.cells c t (0,0))/\c.size=b.length/\
  ∀(q:Nat) y,b[q]? =some y->c[q]? =some (m j q)/\(m j q).oneCell'=true/\RbB T w G bs.length (100000*(j+1)+q) (m j q) y:=by
  intro j b Q;obtain⟨L,c,t,q2,I,X⟩:=af j b Q;refine⟨L,c,t,q2,I,λq y hy=>?_⟩;have hq:q<c.size:=by rw[I];exact(Si.1 hy).1
  have e1:m j q=c[q] :=by simp only[m];rw[q2];simp[hq]
  grind
 have S:∀i n,bB3 bs 0 i=some n->∃j b,i=100000+j/\bs[j]? =some b/\n=kW b (100000*(j+1)):=by
  intro i n hi;rw[bI8]at hi;split at hi;rename_i a7;cases g:bs[i- (100000+0)]? with
  |none=>rw[g]at hi;cases hi
  |some b=>
   rw[g]at hi;simp only[TP,TL]at hi;exact⟨i-100000,b,Aa,by simpa using g,hi.symm⟩
  cases hi
 have ai:∀j b,bs[j]? =some b->bB3 bs 0 (100000+j)=some (kW b (100000*(j+1))):=by
  intro j b g;rw[bI8,Sj Aa,show 100000+j- (100000+0)=j from Aa,g];rfl
 have J:∀i,(100000<=i/\i<100000+bs.length)->(aG1 ys bs).hasB i:=by
  rintro i ⟨h1,h2⟩;have hj:i-100000<bs.length:=Aa;have:=ai (i-100000) bs[i-100000] (RY hj);rw[show 100000+(i-100000)=i from Aa]at this;exact⟨_,this⟩
 have ab:∀(s:Nat) y,ys[s]? =some y->linear y=true->(aG1 ys bs).hasA s 0:=by
  intro s y hy H;have:∃en,jK ys 0 s=some en:=KA;obtain⟨en,D⟩:=this;exact⟨en,by show(match jK ys 0 s with|some en=>some en|none=>vT bs 0 s)=_;rw[D],SH _⟩
 have ac:∀(j q:Nat) b y,bs[j]? =some b->b[q]? =some y->linear y=true->(aG1 ys bs).hasA (100000*(j+1)+q) 0:=by
  intro j q b y g hy H;obtain⟨en,D⟩:=cU9 (j:=0) g hy H;rw[Uh]at D
  have h0:jK ys 0 (100000*(j+1)+q)=none:=by
   rw[gY];grind
  exact⟨en,by show(match jK ys 0 _ with|some en=>some en|none=>vT bs 0 _)=_;rw[h0];exact D,SH _⟩
 have N:∀k en,(aG1 ys bs).ar k=some en->∃v y,RbB T w G bs.length k v y/\G0.av k 0=v/\((y= .own en.ty en.l/\en=⟨0, .own,en.ty,en.l⟩)\/(y= .ap en.ty en.l/\en=⟨0, .ap,en.ty,en.l⟩)):=by
  intro k en D;have U:(match jK ys 0 k with|some en=>some en|none=>vT bs 0 k)=some en:=D;split at U;rename_i a5 h0;cases U;rw[gY]at h0;grind;obtain⟨i,q,b,h1,h2,h3,Y⟩:=cC7 ae U;rw[Uh]at h2;have hq:q<100000:=by have:=ae b (Sl h1);omega
  obtain⟨_,c,t,_,_,ay⟩:=A i b h1;subst h2;rcases Y with⟨Y,h5⟩|⟨Y,h5⟩;grind;grind
 have inv:Inv T Φ (aG1 ys bs) {tmps:=cs++Array.replicate (fn.ntmps-cs.size) undef,defers:=[]} w G0:=by
  constructor;rfl;intro s v h;cases h;grind;intro s;show Rv w G0 ((cs++Array.replicate (fn.ntmps-cs.size) undef).getD s undef) (pF ys 0 s);rw[lY];simp only[SH,Uu,U0];by_cases hs:s<cs.size
  have hv:(cs++Array.replicate (fn.ntmps-cs.size) undef).getD s undef=cs.getD s undef:=by
   simp[UK hs]
  have hy:ys[s]? =some ys[s] :=RY Aa;rw[hv,hy];have hr:=al s _ hy;generalize ys[s] =y at*;simp only;cases H:linear y with
  |false=>exact(B hr H).2
  |true=>
   have h1:=aw hr H;have e:=ag s Aa;rw[<-e]at h1⊢;exact Rv.arr (w:=w) (G:=G0) s 0 h1
  exact Jy;intro s;show(pF ys 0 s).ok _ _;rw[lY];simp only[SH,Uu,U0];cases hy:ys[s]? with
  |none=>simp only[V.ok,V.okL]
  |some y=>
   simp only;have hr:=al s y hy;cases H:linear y with
   |false=>exact V.ok.imp J (λ_ _ h=>h.elim) _ (B hr H).1
   |true=>
    simp only[TT,V.ok];exact ab s y hy H
  intro i n hi;obtain⟨j,b,rfl,g,rfl⟩:=S i n hi;obtain⟨L,c,t,q2,I,X⟩:=A j b g;refine⟨c,t,q2,⟨by rw[aR6];simpa using I,λv hv=>?_,λq v x hv R=>?_⟩,L⟩;obtain⟨q,hq⟩:=SL hv;have a0:q<b.length:=by rw[<-I];simpa using(Si.1 hq).1
  obtain⟨k1,k2,_⟩:=X q _ (RY a0);grind;rw[aH4]at R;cases hy:b[q]? with
  |none=>rw[hy]at R;cases R
  |some y=>
   rw[hy]at R;simp only[TP,TL]at R;obtain⟨k1,k2,k3⟩:=X q y hy;have aq:c[q]? =some v:=Bd;rw[k1]at aq;cases aq
   have hq:q<100000:=by
    have h1:=ae b (Sl g);grind
   cases H:linear y with
   |false=>rw[H]at R;simp only[TW]at R;subst R;exact(B k3 H).2
   |true=>
    rw[H]at R;simp only[TT]at R;subst R;have e:=ah j q hq;rw[<-e]at k2⊢;exact Rv.arr (w:=w) (G:=G0) _ 0 k2
  intro i n hi;obtain⟨j,b,rfl,g,rfl⟩:=S i n hi;obtain⟨L,c,t,q2,I,X⟩:=A j b g;refine aH.2 λx R=>?_;obtain⟨q,hq⟩:=SL R;rw[aH4]at hq;cases hy:b[q]? with
  |none=>rw[hy]at hq;cases hq
  |some y=>
   rw[hy]at hq;simp only[TP,TL]at hq;obtain⟨k1,k2,k3⟩:=X q y hy;cases H:linear y with
   |false=>rw[H]at hq;simp only[TW]at hq;subst hq;exact V.ok.imp J (λ_ _ h=>h.elim) _ (B k3 H).1
   |true=>rw[H]at hq;simp only[TT]at hq;subst hq;simp only[V.ok];exact ac j q b y g hy H
  intro k en D;obtain⟨v,y,h1,h2,h3⟩:=N k en D;have hO:∀b,G.O b= .ar k->G0.O b= .ar k/\w.heap[b]? =w.heap[b]? :=λb Q=>⟨Q,rfl⟩;rcases h3 with⟨rfl,Y⟩|⟨rfl,Y⟩;obtain⟨L,q2,I⟩:=h1;rw[Y];unfold gW;refine⟨L,?_⟩;show gJ T w G0 k (G0.av k 0) _ _;rw[h2];exact I.keep E q2 hO;obtain⟨L,q2,I⟩:=h1;rw[Y];unfold gW;refine⟨L,?_⟩;show gJ T w G0 k (G0.av k 0) _ _\/(Rv w G0 (G0.av k 0) _/\_);rw[h2];rcases I with q|q;exact .inl (q.keep E q2 hO);exact .inr ⟨q.1.aW E D7,q.2⟩;intro k en D;obtain⟨v,y,h1,h2,h3⟩:=N k en D;rcases h3 with⟨rfl,Y⟩|⟨rfl,Y⟩;exact h1.2.1;exact h1.2.1;exact ao;intro b i g;exact .inr (.inr ⟨i,g⟩);intro b k g;exact .inr (.inl ⟨k,g⟩);intro b g;exact .inl g;intro b g;exact g;intro b _ _;rfl;exact Sr _;rfl;rfl;rfl;intro j v h;cases h;grind;intro i b h';have Z:(if 100000<=i/\i<100000+bs.length then some (G.β i)else none)=some b:=h';split at Z;rename_i hi;cases Z;exact⟨rfl,⟨hi.1,Aa⟩,J i hi⟩;cases Z
 refine wM hT hm hf Q (Φ:=Φ) rfl rfl rfl inv h ?_
 have fin:∀(e:Exit) (σ:St) (a':Act) (w':World) (G':Gh),retB T σ fn.results.toList r z->Inv T Φ σ a' w' G'->∃v,(results fn a'.tmps).run P w'= .ok v w'/\∃v0 C,(Ending.returned v= .returned v0)/\RrB T w' C bs.length v0 r/\BxOk T w' C z/\(∀i,i<bs.length->C.β (100000+i)=G.β (100000+i))/\
  (∀b,G.O b= .fz->C.O b= .fz)/\(∀b,C.O b≠ .ext->b<w'.heap.size)/\
  (∀b,C.O b≠ .ext->(G.O b= .fz/\C.O b= .fz)\/w.heap.size<=b\/(∃j,G.O b= .ar j)\/(∃i,G.O b= .bx i/\C.O b= .bx i))/\
  (∀b,b<w.heap.size->(∀j,G.O b≠ .ar j)->(∀i,G.O b≠ .bx i)->w'.heap[b]? =w.heap[b]?)/\
  w.heap.size<=w'.heap.size/\w'.os=w.os/\w'.tape=w.tape/\w'.output=w.output:=by
  intro e σ a' w' G' W inv';replace W:=W.out;obtain⟨xs,vs,hk,aj,a6,a1,an⟩:=aQ5 hT inv' _ _ W;have am:=aD1 an;refine⟨aI1 vs,am,aI1 vs,?_⟩;have au:∀i,i<bs.length->G'.β (100000+i)=G.β (100000+i):=λi hi=>(inv'.argb (100000+i) (G.β (100000+i)) Bh).1
  have M:∀(F:List V),xM T σ.ar (iP z 0) ((xs,F)::eU σ.bx z (iP z 0))->aT2 σ.bx ((xs,F)::eU σ.bx z (iP z 0)) (iP z 0)=true->∃C:Gh,(∀(j:Nat) v y,vs[j]? =some v->F[j]? =some y->RbB T w' C bs.length j v y)/\xs.length=F.length/\BxOk T w' C z/\(∀i,i<bs.length->C.β (100000+i)=G.β (100000+i))/\
   (∀b,G.O b= .fz->C.O b= .fz)/\(∀b,C.O b≠ .ext->b<w'.heap.size)/\
   (∀b,C.O b≠ .ext->(G.O b= .fz/\C.O b= .fz)\/w.heap.size<=b\/(∃j,G.O b= .ar j)\/(∃i,G.O b= .bx i/\C.O b= .bx i)):=by
   intro F h1 h2;obtain⟨Gc,L,q2,I,X,q5,q6⟩:=dR3 inv' rfl h1 h2 vs a1;rw[ax]at L;refine⟨Gc,L,q6,q2,λi hi=>by rw[I];exact au i hi,λb Q=>X b (inv'.F0 b Q),λb Q=>inv'.tag b ?_,λb Q=>?_⟩
   ·rcases q5 b Q with⟨h,_⟩|⟨k,h⟩|⟨i,hi,h,_⟩
    ·rw[h];simp
    ·rw[h];simp
    ·obtain⟨_,_,cs0,hcs0⟩:=inv'.argb (100000+i) (G.β (100000+i)) Bh
     obtain⟨_,_,_,_,hO⟩:=inv'.box _ cs0 hcs0;rw[h,hO];simp
   ·rcases q5 b Q with⟨h,h'⟩|⟨k,h⟩|⟨i,hi,h,h'⟩
    ·rcases inv'.fzm b h with h2|h2
     ·exact .inl ⟨h2,h'⟩
     ·rcases h2 with h2|h2|⟨i,h2⟩
      ·exact .inr (.inl h2)
      ·exact .inr (.inr (.inl h2))
      ·exact Lj
    ·rcases inv'.mineA b k h with h2|h2|⟨i,h2⟩
     ·exact .inr (.inl h2)
     ·exact .inr (.inr (.inl h2))
     ·exact Lj
    ·rw[au i Aa]at h
     refine .inr (.inr (.inr ⟨100000+i,?_,h'⟩));rw[h];have az:i<bs.length:=Aa;exact(A i bs[i] (RY az)).1
  have frame:(∀b,b<w.heap.size->(∀j,G.O b≠ .ar j)->(∀i,G.O b≠ .bx i)->w'.heap[b]? =w.heap[b]?)/\w.heap.size<=w'.heap.size/\w'.os=w.os/\w'.tape=w.tape/\w'.output=w.output:=
   ⟨λb Q hj hi=>inv'.frame b Q (by
    rintro(⟨j,h⟩|⟨i,h⟩);exact hj j h
    exact hi i h),inv'.size,inv'.os,inv'.tape,inv'.output⟩
  split at hk
  ·rename_i x
   obtain⟨g1,g2,g3⟩:=hk;obtain⟨C,L,_,q2,I,X,q5,q6⟩:=M [r] g1 g2;obtain⟨v,rfl⟩:∃v,vs=[v] :=UH.1 aj;refine⟨C,rfl,?_,q2,I,X,q5,q6,frame⟩;have:=L 0 v r rfl rfl;unfold RrB;split
   ·exact absurd rfl (g3 _)
   ·exact this
  ·rename_i a9
   obtain⟨F,rfl,g1,g2⟩:=hk;obtain⟨C,L,ak,q2,I,X,q5,q6⟩:=M F g1 g2;refine⟨C,rfl,?_,q2,I,X,q5,q6,frame⟩;show∃us:Array Value,aI1 vs= .tuple us/\us.size=F.length/\∀(j:Nat) u y,us[j]? =some u->F[j]? =some y->RbB T w' C bs.length j u y;refine⟨vs.toArray,?_,by simp[aj,ak],λj u y hu hy=>L j u y Ba hy⟩;exact Po
 intro e σ a' w' G' hq inv';exact NW;exact h.elim
end
def dU6(u' u:Value):Prop:=
 match u with
 | .int k n=>match u' with| .int k' n'=>k'=k/\n'=n|_=>False
 | .bool b=>match u' with| .bool b'=>b'=b|_=>False
 |u=>u'=u
def wk1(ar r:Nat->Option AE)(x y:V):Prop:=
 match y with
 | .bot=>True
 | .lit u=>match x with| .lit u'=>dU6 u' u|_=>False
 | .sl l=>match x with
   | .sl l'=>l'=l
   | .cap l'=>l'=l
   | .lit (.slice none 0 0)=>l=[]
   | .arr k g=>match ar k with
     |some en=>match en.kind with
      | .frz=>en.gen=g/\en.l=l
      |_=>False
     |none=>False
   |_=>False
 | .arr k g=>match x with
   | .arr k' g'=>k'=k/\g'=g
   | .lit (.slice none 0 0)=>match ar k with
     |none=>match r k with
      |some en=>en.gen=g
      |none=>False
     |some _=>False
   |_=>False
 | .box i o=>match x with| .box i' o'=>i'=i/\o'=o|_=>False
 | .cap l=>match x with| .cap l'=>l'=l| .lit (.slice none 0 0)=>l=[] |_=>False
 | .fp l=>match x with| .fp l'=>l'=l|_=>False
 | .fn g l=>match x with| .fn g' l'=>g'=g/\l'=l|_=>False
 | .ae k g z i o=>match x with| .ae k' g' z' i' o'=>k'=k/\g'=g/\z'=z/\i'=i/\o'=o|_=>False
 |_=>False
def wkL(ar r:Nat->Option AE)(ys:List V):List V->Prop:=
 List.rec (motive:=λ_=>List V->Prop) (λxs=>match xs with| [] =>True|_::_=>False)
  (λy _ ih xs=>match xs with|x::xr=>wk1 ar r x y/\ih xr| [] =>False) ys
def wkV(ar r:Nat->Option AE)(x y:V):Prop:=
 match y with
 | .agg ys=>match x with| .agg xs=>wkL ar r ys xs|_=>False
 |y=>wk1 ar r x y
def bX7(a b:AK):Prop:=
 match b with
 | .own=>match a with| .own=>True|_=>False
 | .ap=>match a with| .own=>True| .ap=>True|_=>False
 | .frz=>match a with| .frz=>True|_=>False
 | .dead=>match a with| .dead=>True|_=>False
def wkAE(T:Tab)(o:Option AE)(en:AE):Prop:=
 match o with
 |some en0=>en0.gen=en.gen/\bX7 en0.kind en.kind/\en0.ty=en.ty/\en0.l=en.l
 |none=>bX7 .own en.kind/\en.l=[]/\Nat.blt en.ty (T.n en.ty)=true
def wfC1(b:Nat->Option (List V))(x:V):Prop:=
 match x with
 | .box i _=>match b i with|some _=>True|none=>False
 | .fp _=>True
 | .lit _=>True
 | .own _ [] =>True
 | .ap _ _=>True
 | .sl _=>True
 |_=>False
def wfC(b:Nat->Option (List V))(l:List V):Prop:=List.rec (motive:=λ_=>Prop) True (λx _ ih=>wfC1 b x/\ih) l
def wf1(b:Nat->Option (List V))(r:Nat->Option AE)(x:V):Prop:=
 match x with
 | .box i _=>match b i with|some _=>True|none=>False
 | .arr k g=>match r k with|some en=>g<=en.gen|none=>False
 | .ae k g _ _ _=>match r k with|some en=>g<=en.gen|none=>False
 | .fn _ l=>wfC b l
 |_=>True
def wfL(b:Nat->Option (List V))(r:Nat->Option AE)(l:List V):Prop:=List.rec (motive:=λ_=>Prop) True (λx _ ih=>wf1 b r x/\ih) l
def wfV(b:Nat->Option (List V))(r:Nat->Option AE)(x:V):Prop:=
 match x with
 | .agg cs=>wfL b r cs
 |x=>wf1 b r x
def wkE(σ:St)(b:Nat->Option (List V))(r:Nat->Option AE)(e:List (Nat×V)):Prop:=
 List.rec (motive:=λ_=>Prop) True (λp _ ih=>(wkV σ.ar r (σ.env p.1) p.2/\wfV b r p.2)/\ih) e
def wkB(σ:St)(b:Nat->Option (List V))(r:Nat->Option AE)(l:List (Nat×List V)):Prop:=
 List.rec (motive:=λ_=>Prop) True (λp _ ih=>(match σ.bx p.1 with|some cs=>wkL σ.ar r p.2 cs/\wfL b r p.2|none=>False)/\ih) l
def wkA(T:Tab)(σ:St)(l:List (Nat×AE)):Prop:=
 List.rec (motive:=λ_=>Prop) True (λp _ ih=>wkAE T (σ.ar p.1) p.2/\ih) l
theorem eJ6{c u:Value}(h:dU6 c u):c=u:=by
 unfold dU6 at h;grind
section
variable{T:Tab}{Φ:Fr}{σ:St}{a:Act}{w:World}{G:Gh}{b:Nat->Option (List V)}{r:Nat->Option AE}
def xI(σ:St)(G:Gh):Gh:={G with av:=λk g=>match σ.ar k with|none=> .slice none 0 0|some _=>G.av k g}
def bD1(σ:St)(w:World)(G:Gh):Keep w w G (xI σ G):=⟨λ_ h=>h,λ_ _=>rfl⟩
def eB6{k g:Nat}(h:σ.hasA k g):(xI σ G).av k g=G.av k g:=by
 obtain⟨en,h,_⟩:=h;simp[xI,h]
def eX8{τ:St}{p:Nat->Prop}{q:Nat->Nat->Prop}{l:List V}:wfC τ.bx l->V.okL p q l->V.okL τ.hasB τ.hasA l:=by
 induction l with
 |nil=>intro _ _;simp only[V.okL]
 |cons x r i=>
  intro h c;obtain⟨e,g⟩:wfC1 τ.bx x/\wfC τ.bx r:=h;simp only[V.okL]at c⊢;refine⟨?_,i g c.2⟩;have d:=c.1;unfold wfC1 at e;split at e;split at e;rename_i cs f;simp only[V.ok];exact⟨cs,f⟩;exact e.elim;simp only[V.ok]at d⊢;exact d;simp only[V.ok];simp only[V.ok,V.okL];simp only[V.ok]at d⊢;exact d;simp only[V.ok]at d⊢;exact d;exact e.elim
theorem aG3(inv:Inv T Φ σ a w G){v:Value}{x y:V}(m:Rv w G v x)(c:x.ok σ.hasB σ.hasA)(h:wk1 σ.ar r x y)(hw:wf1 b r y)(τ:St)(u:τ.bx=b)(A:τ.ar=r):
 Rv w (xI σ G) v y/\y.ok τ.hasB τ.hasA:=by
 have f:Rv w (xI σ G) v x:=m.keep (bD1 σ w G) c (λ_ _=>rfl) (λk g h=>eB6 h);subst u A;unfold wk1 at h;split at h
 ·exact⟨.bot v,BD⟩
 ·grind [eJ6,V.ok]
 ·split at h
  ·grind [V.ok]
  ·subst h;exact⟨f.wK,by simp only[V.ok]at c⊢;exact c⟩
  ·subst h
   have:=m.bH;subst this;exact⟨.slN,EC⟩
  ·split at h
   ·rename_i k g _ en hen
    split at h
    ·rename_i s
     obtain⟨rfl,rfl⟩:=h;have n:=inv.arr k en hen;unfold gW at n;rw[s]at n;have hp:=inv.wfA k en hen;have t:(V.sl en.l).pure:=Au;have hv:=m.oQ;rw[hv];exact⟨(n:Rv w G _ _).aW (bD1 σ w G) t,by simp only[V.ok];exact hp⟩
    ·exact h.elim
   ·exact h.elim
  ·exact h.elim
 ·rename_i k g
  have j:τ.hasA k g:=Me;split at h
  ·grind [V.ok]
  ·split at h
   ·rename_i d
    split at h
    ·have hv:=m.bH
     subst hv;have e:(xI σ G).av k g= .slice none 0 0:=by simp[xI,d]
     rw[<-e];exact⟨.arr k g (by rw[e];rfl),by simp only[V.ok];exact j⟩
    ·exact h.elim
   ·exact h.elim
  ·exact h.elim
 ·split at h
  ·obtain⟨rfl,rfl⟩:=h
   refine⟨f,?_⟩;unfold wf1 at hw;simp only at hw;split at hw
   ·rename_i cs q;simp only[V.ok];exact⟨cs,q⟩
   ·exact hw.elim
  ·exact h.elim
 ·split at h
  ·grind [V.ok]
  ·subst h
   have:=m.bH;subst this;exact⟨.capN,EC⟩
  ·exact h.elim
 ·grind [V.ok]
 ·split at h
  ·obtain⟨rfl,rfl⟩:=h
   refine⟨f,?_⟩;simp only[V.ok]at c⊢;exact eX8 (τ:=τ) hw c
  ·exact h.elim
 ·rename_i k g z i o
  have j:τ.hasA k g:=Me;grind [V.ok]
 ·exact h.elim
def bL3{ar:Nat->Option AE}{ys:List V}:∀ {xs:List V},wkL ar r ys xs->wfL b r ys->xs.length=ys.length/\∀(i:Nat) x y,xs[i]? =some x->ys[i]? =some y->wk1 ar r x y/\wf1 b r y:=by
 induction ys with
 |nil=>
  intro xs h _;cases xs with
  |nil=>exact⟨rfl,λi x y hx=>IJ⟩
  |cons x xr=>exact(h:False).elim
 |cons y c f=>
  intro xs h e;cases xs with
  |nil=>exact(h:False).elim
  |cons x xr=>
   obtain⟨j,d⟩:=(h:wk1 ar r x y/\wkL ar r c xr);obtain⟨m,g⟩:=(e:wf1 b r y/\wfL b r c);obtain⟨k,l⟩:=f d g;grind
def bT8(inv:Inv T Φ σ a w G){v:Value}{x y:V}(l:Rv w G v x)(e:x.ok σ.hasB σ.hasA)(h:wkV σ.ar r x y)(k:wfV b r y)(τ:St)(m:τ.bx=b)(n:τ.ar=r):
 Rv w (xI σ G) v y/\y.ok τ.hasB τ.hasA:=by
 unfold wkV at h;split at h
 ·rename_i ys
  split at h
  ·rename_i xs
   obtain⟨q1,o⟩:=bL3 h k;obtain⟨cs,rfl,g,j,hrel⟩:=l.zV;simp only[V.ok]at e
   have d:∀(i:Nat) c y,cs[i]? =some c->ys[i]? =some y->Rv w (xI σ G) c y/\y.ok τ.hasB τ.hasA:=by
    intro i c y f hy;have hi:i<xs.length:=F8;grind [aG3,aH,Ui]
   refine⟨.agg cs ys Aa j λi c y f hy=>(d i c y f hy).1,?_⟩;simp only[V.ok];rw[aH];intro y hy;obtain⟨i,hi⟩:=SL hy;have hlt:i<cs.size:=by rw[g,q1];exact(Si.1 hi).1
   exact(d i cs[i] y IX hi).2
  ·exact h.elim
 ·grind [aG3,wfV]
def dT6{d:Type}{c:d}{l:List (Nat×d)}(s:Nat):ofL c l s=c\/∃p∈l,p.1=s/\ofL c l s=p.2:=by
 induction l with
 |nil=>exact .inl rfl
 |cons p q f=>
  have e:ofL c (p::q) s=cond (Nat.beq s p.1) p.2 (ofL c q s):=rfl;grind [Nat.beq,TR]
def aF5{c:Type}{l:List (Nat×c)}{s:Nat}{x:c}(h:ofO l s=some x):∃p∈l,p.1=s/\p.2=x:=by
 induction l with
 |nil=>cases h
 |cons p q e=>
  have d:ofO (p::q) s=cond (Nat.beq s p.1) (some p.2) (ofO q s):=rfl;grind [Nat.beq,TR]
def cP0{e:List (Nat×V)}(h:wkE σ b r e):∀p∈e,wkV σ.ar r (σ.env p.1) p.2/\wfV b r p.2:=by
 induction e with
 |nil=>intro p hp;cases hp
 |cons q l ih=>
  obtain⟨h1,h2⟩:=(h:(wkV σ.ar r (σ.env q.1) q.2/\wfV b r q.2)/\wkE σ b r l);intro p hp;exact QU
def cF4{l:List (Nat×List V)}(h:wkB σ b r l):∀p∈l,∃cs,σ.bx p.1=some cs/\wkL σ.ar r p.2 cs/\wfL b r p.2:=by
 induction l with
 |nil=>intro p c;cases c
 |cons q l e=>
  obtain⟨f,d⟩:=(h:(match σ.bx q.1 with|some cs=>wkL σ.ar r q.2 cs/\wfL b r q.2|none=>False)/\wkB σ b r l);intro p c;rcases SI.1 c with rfl|c;grind;exact e d p c
def cO0{l:List (Nat×AE)}(h:wkA T σ l):∀p∈l,wkAE T (σ.ar p.1) p.2:=by
 induction l with
 |nil=>intro p hp;cases hp
 |cons q l ih=>
  obtain⟨h1,h2⟩:=(h:wkAE T (σ.ar q.1) q.2/\wkA T σ l);intro p hp;exact QU
def cR3(inv:Inv T Φ σ a w G){k:Nat}{c en:AE}(d:σ.ar k=some c)(e:c.gen=en.gen)(f:bX7 c.kind en.kind)(g:c.ty=en.ty)(h:c.l=en.l):gW T w G k en:=by
 have i:=inv.arr k c d;grind [bX7,gW]
def has8(o p:Option AE):Prop:=match o with|none=>True|some _=>(match p with|some _=>True|none=>False)
def aN5(o p:Option (List V)):Prop:=match o with|none=>True|some _=>(match p with|some _=>True|none=>False)
def wk8b(ar r:Nat->Option (List V)):Prop:=aN5 (ar 100000) (r 100000)/\aN5 (ar 100001) (r 100001)/\aN5 (ar 100002) (r 100002)/\aN5 (ar 100003) (r 100003)/\aN5 (ar 100004) (r 100004)/\aN5 (ar 100005) (r 100005)/\aN5 (ar 100006) (r 100006)/\aN5 (ar 100007) (r 100007)
def dS5{ar r:Nat->Option (List V)}(h:wk8b ar r){j:Nat}(q:100000<=j/\j<100008){en:List V}(n:ar j=some en):∃c,r j=some c:=by
 have key:∀ {o p:Option (List V)},aN5 o p->o=some en->∃c,p=some c:=by
  intro o p h ho;exact QJ
 obtain⟨d,e,f,g,i,k,l,m⟩:=h;grind
def wk8(ar r:Nat->Option AE):Prop:=has8 (ar 0) (r 0)/\has8 (ar 1) (r 1)/\has8 (ar 2) (r 2)/\has8 (ar 3) (r 3)/\has8 (ar 4) (r 4)/\has8 (ar 5) (r 5)/\has8 (ar 6) (r 6)/\has8 (ar 7) (r 7)
def dT9{ar r:Nat->Option AE}(h:wk8 ar r){j:Nat}(q:j<8){en:AE}(c:ar j=some en):∃d,r j=some d:=by
 have key:∀ {o p:Option AE},has8 o p->o=some en->∃d,p=some d:=by
  intro o p h ho;exact QJ
 obtain⟨e,f,g,i,k,l,m,n⟩:=h;match j,q with
 |0,_=>exact key e c
 |1,_=>exact key f c
 |2,_=>exact key g c
 |3,_=>exact key i c
 |4,_=>exact key k c
 |5,_=>exact key l c
 |6,_=>exact key m c
 |7,_=>exact key n c
def dV{e:List (Nat×V)}{o:List (Nat×List V)}{q:List (Nat×AE)}(P:wk8 σ.ar (ofO q)/\wk8b σ.bx (ofO o))(Q:wkA T σ q)(R:wkB σ (ofO o) (ofO q) o)(S:wkE σ (ofO o) (ofO q) e):Le T σ (mkSt e o q):=by
 unfold Le;intro Φ a w G inv;have B:∀s,(mkSt e o q).env s= .bot\/∃p∈e,p.1=s/\(mkSt e o q).env s=p.2:=λs=>dT6 s;have D:∀k g,σ.hasA k g->(xI σ G).av k g=G.av k g:=λk g h=>eB6 h;refine⟨xI σ G,?_⟩;refine {nd:=inv.nd,kp:=inv.kp,sz:=inv.sz,env:= ?_,wfE:= ?_,box:= ?_,wfB:= ?_,arr:= ?_,wfA:= ?_,tag:=inv.tag,mineB:=inv.mineB,mineA:=inv.mineA,fzm:=inv.fzm,F0:=inv.F0,lay:=inv.lay,frame:=inv.frame,size:=inv.size,os:=inv.os,tape:=inv.tape,output:=inv.output,args:=λj v h=>⟨(D j 0 ⟨_,(inv.args j v h).2.2.choose_spec,SH _⟩).trans (inv.args j v h).1,(inv.args j v h).2.1,dT9 P.1 (inv.args j v h).2.1 (inv.args j v h).2.2.choose_spec⟩,argb:=λi F h=>⟨(inv.argb i F h).1,(inv.argb i F h).2.1,dS5 P.2 (inv.argb i F h).2.1 (inv.argb i F h).2.2.choose_spec⟩};intro s;rcases B s with h|⟨p,m,rfl,h⟩;rw[h];exact .bot _;rw[h];obtain⟨u,l⟩:=cP0 S p m;exact(bT8 inv (inv.env p.1) (inv.wfE p.1) u l (mkSt e o q) rfl rfl).1;intro s;rcases B s with h|⟨p,m,rfl,h⟩;rw[h];simp only[V.ok];rw[h];obtain⟨u,l⟩:=cP0 S p m;exact(bT8 inv (inv.env p.1) (inv.wfE p.1) u l (mkSt e o q) rfl rfl).2;intro i cs hi;obtain⟨p,m,rfl,rfl⟩:=aF5 hi;obtain⟨d,f,u,l⟩:=cF4 R p m;obtain⟨c,t,N,A,O⟩:=inv.box p.1 d f;obtain⟨q1,M⟩:=bL3 u l;refine⟨c,t,N,⟨by rw[A.len,q1],A.one,λi v y hv hy=>?_⟩,O⟩;have hlt:i<d.length:=F8;have n:d[i]? =some d[i] :=IX;obtain⟨K,L⟩:=M i d[i] y n hy;exact(aG3 inv (A.rel i v d[i] hv n) (aH.1 (inv.wfB p.1 d f) _ (Ui hlt)) K L (mkSt e o q) rfl rfl).1;intro i cs hi;obtain⟨p,m,rfl,rfl⟩:=aF5 hi;obtain⟨d,f,u,l⟩:=cF4 R p m;obtain⟨c,t,N,A,O⟩:=inv.box p.1 d f;obtain⟨q1,M⟩:=bL3 u l;rw[aH];intro y hy;obtain⟨i,E⟩:=SL hy;have hlt:i<d.length:=by rw[q1];exact(Si.1 E).1
 have n:d[i]? =some d[i] :=IX;have X:i<c.toList.length:=by rw[A.len];exact hlt
 obtain⟨K,L⟩:=M i d[i] y n E;exact(aG3 inv (A.rel i c.toList[i] d[i] Af n) (aH.1 (inv.wfB p.1 d f) _ (Ui hlt)) K L (mkSt e o q) rfl rfl).2;intro k en H;obtain⟨p,m,rfl,rfl⟩:=aF5 H;have h:=cO0 Q p m;unfold wkAE at h;split at h;rename_i C z;have J:=cR3 inv z h.1 h.2.1 h.2.2.1 h.2.2.2;refine J.keep (bD1 σ w G) ?_ ?_ (λb W=>⟨W,rfl⟩);rw[<-h.2.2.2];exact inv.wfA _ _ z;exact D _ _ ⟨C,z,Aa⟩;rename_i z;obtain⟨u,l,U⟩:=h;have x:(xI σ G).av p.1 p.2.gen= .slice none 0 0:=by simp[xI,z]
 have hlt:=blt U;unfold gW;split;rw[l];trivial;rename_i I;rw[I]at u;exact u.elim;rw[x,l];exact⟨hlt, .inl ⟨.inl rfl,rfl⟩⟩;rw[x,l];exact⟨hlt, .inl (.inl ⟨.inl rfl,rfl⟩)⟩;intro k en H;obtain⟨p,m,rfl,rfl⟩:=aF5 H;have h:=cO0 Q p m;unfold wkAE at h;split at h;rename_i C z;rw[<-h.2.2.2];exact inv.wfA _ _ z;rw[h.2.1];simp only[V.okL]
end
section
variable{T:Tab}{P:Program}{Φ:Fr}{σ:St}{a:Act}{w w':World}{G G':Gh}{K:VK}{o:Oper}{d:Nat}
structure retN(T:Tab)(σ:St)(rs:List ResultVar)(cells:List V):Prop where
 out:aH3 T σ rs λxs=>match xs with
  | [.box i 0] =>match σ.bx i with
    |some cs=>iQ T σ.ar cells cs/\iR cs cells=true/\allR (λy=> !linear y) cells=true
    |none=>False
  |_=>False
def fnVCN(T:Tab)(P:Program)(fn:Func)(ys:List V)(cells:List V):Prop:=
 match fn.body with
 |some c=>nH T P fn.ntmps c (uD ys) λe σ=>match e with
  | .normal=>retN T σ fn.results.toList cells
  | .ret=>retN T σ fn.results.toList cells
  |_=>False
 |none=>False
def retN_i{c:List ResultVar}{b:List V}(h:aH3 T σ c λxs=>match xs with
 | [.box i 0] =>match σ.bx i with
   |some cs=>iQ T σ.ar b cs/\iR cs b=true/\allR (λy=> !linear y) b=true
   |none=>False
 |_=>False):retN T σ c b:=⟨h⟩
def fnN_sound(hT:bP T P)(hm:P.follows .mixedOrders=true){f:FuncId}{z:Func}(hf:P.funcs[f]? =some z)(hc:callable P f=true){ys:List V}{g:List V}(hn:ys.length<=z.ntmps)(h:fnVCN T P z ys g):SpecN T P f ys g:=by
 refine⟨hc,?_⟩;intro w G cs hcs B ab E N;unfold fnVCN at h;split at h
 ·rename_i c hb
  let Φ:Fr:=⟨w,λb=>∃j,G.O b= .ar j,λb=>G.O b= .fz,z.ntmps,λ_=>none,λ_=>none,[],λ_=>none⟩;let G0:Gh:={G with av:=λk _=>cs.getD k undef};have hkeep:Keep w w G G0:=⟨λ_ h=>h,λ_ _=>rfl⟩
  have hrb:∀(j:Nat) y,ys[j]? =some y->Rb T w G j (cs.getD j undef) y:=by
   intro j y hy;have hj:j<cs.size:=BM;exact E j _ y Iz hy
  have C:∀ {j u e l},gJ T w G j u e l->u.oneCell'=true:=by
   intro j u e l h;exact OY
  have J:∀ {u l},Rv w G u (.cap l)->u.oneCell'=true:=by
   intro u l h;exact Py
  have inv:Inv T Φ (uD ys) {tmps:=cs++Array.replicate (z.ntmps-cs.size) undef,defers:=[]} w G0:=by
   constructor;rfl;intro s v h;cases h;show(cs++Array.replicate (z.ntmps-cs.size) undef).size=z.ntmps;simp;omega;intro s;show Rv w G0 ((cs++Array.replicate (z.ntmps-cs.size) undef).getD s undef) (pF ys 0 s);rw[lY];simp only[SH,Uu,U0];by_cases hs:s<cs.size
   have hv:(cs++Array.replicate (z.ntmps-cs.size) undef).getD s undef=cs.getD s undef:=by
    simp[UK hs]
   have hy:ys[s]? =some ys[s] :=RY Aa;rw[hv,hy];have hr:=hrb s _ hy;generalize ys[s] =y at*;simp only;cases F:linear y with
   |false=>
    have:y.pure/\Rv w G (cs.getD s undef) y:=by
     unfold Rb at hr;split at hr;simp[linear]at F;simp[linear]at F;exact hr
    exact this.2.aW hkeep this.1
   |true=>
    have h1:(cs.getD s undef).oneCell'=true:=by
     unfold Rb at hr;split at hr;exact C hr.2.2;rcases hr.2.2 with q|q;exact C q;exact J q.1;rename_i S U;rw[oW S U]at F;cases F
    exact Rv.arr (w:=w) (G:=G0) s 0 h1
   have hy:ys[s]? =none:=TS Aa;rw[hy]
   have hv:(cs++Array.replicate (z.ntmps-cs.size) undef).getD s undef=undef:=by
    rw[TY,UJ Aa];by_cases n:s-cs.size<z.ntmps-cs.size;simp[n];rw[UX Bg];rfl
   rw[hv];exact xK w G0;intro s;show(pF ys 0 s).ok _ _;rw[lY];simp only[SH,Uu,U0];cases hy:ys[s]? with
   |none=>simp only[V.ok,V.okL]
   |some y=>
    simp only;have hr:=hrb s y hy;cases F:linear y with
    |false=>
     have:y.pure:=by
      unfold Rb at hr;split at hr;simp[linear]at F;simp[linear]at F;exact hr.1
     exact V.pure.ok this _ _
    |true=>
     simp only[TT,V.ok];have:∃en,jK ys 0 s=some en/\0<=en.gen:=KA;exact this
   intro i cs' hi;exact O4;intro i cs' hi;exact O4;intro k en hen;exact O6;intro k en hen;exact O7;exact B;intro b i hb;exact absurd hb (ab b i);intro b k hb;exact .inr ⟨k,hb⟩;intro b hb;exact .inl hb;intro b hb;exact hb;intro b _ _;rfl;exact Sr _;rfl;rfl;rfl;intro j v h;cases h;exact⟨N,λb hb=>⟨B b (by rw[show G.O b= .fz from hb];simp),λ⟨j,hj⟩=>by rw[show G.O b= .fz from hb]at hj;cases hj⟩⟩;intro i b h;cases h
  refine wM hT hm hf hb (Φ:=Φ) rfl rfl rfl inv h ?_
  have fin:∀(e:Exit) (σ:St) (a':Act) (w':World) (G':Gh),retN T σ z.results.toList g->Inv T Φ σ a' w' G'->∃v,(results z a'.tmps).run P w'= .ok v w'/\∃v0 D,(Ending.returned v= .returned v0)/\(Rr T w' D v0 .bot/\NewX g v0 cs w' D)/\
   (∀b,G.O b= .fz->D.O b= .fz)/\(∀b,D.O b≠ .ext->b<w'.heap.size)/\(∀b i,D.O b≠ .bx i)/\
   (∀b,D.O b≠ .ext->(G.O b= .fz/\D.O b= .fz)\/w.heap.size<=b\/∃j,G.O b= .ar j)/\
   (∀b,b<w.heap.size->(∀j,G.O b≠ .ar j)->w'.heap[b]? =w.heap[b]?)/\
   w.heap.size<=w'.heap.size/\w'.os=w.os/\w'.tape=w.tape/\w'.output=w.output:=by
   intro e σ a' w' G' Y inv';obtain⟨xs,vs,M,ae,ai,ah,Z⟩:=aQ5 hT inv' _ _ Y.out;have X:=aD1 Z;refine⟨aI1 vs,X,aI1 vs,?_⟩;split at M;rotate_left
   ·exact M.elim
   rename_i i;split at M;rotate_left
   ·exact M.elim
   rename_i I A;obtain⟨g1,g2,g3⟩:=M;obtain⟨v,rfl⟩:∃v,vs=[v] :=UH.1 ae;obtain⟨ag,aj⟩:=ah 0 v (.box i 0) rfl rfl;obtain⟨c,t,k1,k2,k3⟩:=inv'.box i I A;have hv:v= .pointer (some ⟨G'.β i,0,none⟩):=by cases ag;rfl
   have W:=aH.1 (inv'.wfB i I A);obtain⟨r,q1,q2,q3,q4⟩:=cF9 inv' g1 g2 c.toList (λj u x H hx=>⟨k2.rel j u x H hx,W x (Sl hx)⟩)
   have aa:r.O (G'.β i)= .ext:=by
    cases hO:r.O (G'.β i)with
    |ext=>rfl
    |_=>
     exfalso;rcases q4 (G'.β i) (by rw[hO];simp)with⟨h,_⟩|⟨k,h⟩<;>(rw[k3]at h;cases h)
   have Q:=(qM g1).1;have L:c.toList.length=g.length:=by rw[k2.len,Q]
   have R:∀b,r.O b≠ .ext->b≠G'.β i:=λb hb e=>hb (by rw[e];exact aa);have ac:Keep w' w' r {r with O:=upd r.O (G'.β i) (.ar 0)}:=⟨λb hb=>by show upd _ _ _ b=_;rw[upd_ne _ _ (R b (by rw[hb];simp))];exact hb,λ_ _=>rfl⟩
   have m:∀(j:Nat) u y,c.toList[j]? =some u->g[j]? =some y->y.pure/\Rv w' r u y:=by
    intro j u y H hy;have h1:=q1 j u y H hy;have n:=dY.1 g3 y (Sl hy);unfold Rb at h1;split at h1;simp[linear]at n;simp[linear]at n;exact h1
   refine⟨{r with O:=upd r.O (G'.β i) (.ar 0)},rfl,⟨⟨BD, .bot _⟩,?_,G'.β i,c,t,0,hv,upd_same _ _ _,k1,L,k2.one,λj u y H hy=>(m j u y H hy).2.aW ac (m j u y H hy).1⟩,?_,?_,?_,?_,λb hb hj=>inv'.frame b hb (λ⟨j,h⟩=>hj j h),inv'.size,inv'.os,inv'.tape,inv'.output⟩
   ·refine aH.2 λy hy=>?_
    obtain⟨j,hj⟩:=SL hy;have af:j<c.toList.length:=by rw[L];exact(Si.1 hj).1
    exact(m j c.toList[j] y (RY af) hj).1
   ·intro b hb
    have h1:=q2 b (inv'.F0 b hb);show upd r.O _ _ b=_;rw[upd_ne _ _ (R b BN)];exact h1
   ·intro b hb
    by_cases e:b=G'.β i
    ·subst e;exact inv'.tag _ (by rw[k3];simp)
    ·have n:upd r.O (G'.β i) (.ar 0) b≠ .ext:=hb
     rw[upd_ne _ _ e]at n;refine inv'.tag b ?_;rcases q4 b n with⟨h,_⟩|⟨k,h⟩<;>(rw[h];simp)
   ·intro b i' hb
    by_cases e:b=G'.β i
    ·subst e
     have n:upd r.O (G'.β i) (.ar 0) (G'.β i)= .bx i':=hb;rw[upd_same]at n;cases n
    ·have n:upd r.O (G'.β i) (.ar 0) b= .bx i':=hb
     rw[upd_ne _ _ e]at n;exact q3 b i' n
   ·intro b hb
    by_cases e:b=G'.β i
    ·subst e
     exact .inr (inv'.mineB _ i k3)
    ·have n:upd r.O (G'.β i) (.ar 0) b≠ .ext:=hb
     rw[upd_ne _ _ e]at n;show _/\upd r.O (G'.β i) (.ar 0) b=_\/_;rw[upd_ne _ _ e];rcases q4 b n with⟨h,h'⟩|⟨k,h⟩
     ·rcases inv'.fzm b h with h3|h3
      ·exact .inl ⟨h3,h'⟩
      ·exact .inr h3
     ·exact .inr (inv'.mineA b k h)
  intro e σ a' w' G' hq inv';exact NW
 exact h.elim
end
section
variable{T:Tab}{P:Program}{σ:St}
def eY7{x y:aA2}{Q:Exit->St->Prop}(h:x σ λe a=>match e with
 | .normal=>y a Q
 |e=>Q e a):dG2 T x y σ Q:=by refine⟨?_⟩;exact .inl h
def dJ4{x y:aA2}{Q:Exit->St->Prop}(A:Type)(st:A->St)(inv:A->Prop)(h:x σ λe a=>match e with
 | .normal=>∃p,Le T a (st p)/\inv p
 |e=>Q e a)(b:∀p,inv p->y (st p) Q):dG2 T x y σ Q:=by refine⟨?_⟩;exact .inr ⟨⟨A,st,inv,λ_=>0⟩,h,b⟩
def lD{x:aA2}{Q:Exit->St->Prop}{A:Type}(st:A->St)(inv:A->Prop)(m:A->Nat)(b:A)(c:Le T σ (st b))(d:inv b)(h:∀p,inv p->x (st p) λe a=>match e with
 | .normal=>∃p',Le T a (st p')/\inv p'/\m p'<m p
 |e=>Q e a):bI0 T x σ Q:=by refine⟨?_⟩;exact⟨⟨A,st,inv,m⟩,⟨b,c,d⟩,h⟩
theorem jU{b:Bool}{A B:Prop}(a:b=true->A)(c:b=false->B):branch b A B:=by
 cases b;exact c rfl;exact a rfl
theorem dC8{a b:Int}:ltB a b=true↔a<b:=by unfold ltB;simp
def eU6{a b:Int}:ltB a b=false↔b<=a:=by unfold ltB;simp
theorem bV6{a b:Int}:leB a b=true↔a<=b:=by unfold leB;simp
def eU7{a b:Int}:leB a b=false↔b<a:=by unfold leB;simp
theorem aA1{a b:Int}:eqB a b=true↔a=b:=by unfold eqB;simp
def dY0{a b:Int}:eqB a b=false↔a≠b:=by unfold eqB;simp
theorem eQ7(a b:Bool):andB a b=(a&&b):=by unfold andB;rfl
theorem cA1(a b:Bool):eqBB a b=(a==b):=by unfold eqBB;rfl
def br_lt{a b:Int}{A B:Prop}(c:a<b->A)(d:b<=a->B):branch (ltB a b) A B:=jU (λh=>c (dC8.1 h)) (λh=>d (eU6.1 h))
def br_le{a b:Int}{A B:Prop}(c:a<=b->A)(d:b<a->B):branch (leB a b) A B:=jU (λh=>c (bV6.1 h)) (λh=>d (eU7.1 h))
def eV7{a b:Int}{A B:Prop}(c:a=b->A)(d:a≠b->B):branch (eqB a b) A B:=jU (λh=>c (aA1.1 h)) (λh=>d (dY0.1 h))
theorem eZ2{b:Bool}{A B:Prop}(h:branch b B A):branch (!b) A B:=by cases b<;>exact h
theorem mG(a b:Int):maxI a b=max a b:=by unfold maxI;split<;>omega
theorem lH(a b:Int):minI a b=min a b:=by unfold minI;split<;>omega
def eH4{n:Int}{K:Int->Prop}(h: -9223372036854775808<=n/\n<=9223372036854775807)(a:K n):arith .i64 n K:=by
 refine⟨?_⟩;rw[show IntKind.wrap .i64 n=n from IntWalk.i64_in _ Aa];exact a
def fU{p K:Prop}(h:p)(a:K):need p K:=by refine⟨?_⟩;exact⟨h,a⟩
def eQ9{a:Type}{f:a->V}{l:List a}{i:Nat}{K:V->Prop}(hi:i<l.length)(h:∀x,l[i]? =some x->K (f x)):idx (l.map f) i K:=by
 refine⟨?_⟩;exact⟨f l[i],by simp[hi],h _ (by simp[hi])⟩
def dE3{l:List V}{i:Nat}{K:V->Prop}(x:V)(h:l[i]? =some x)(a:K x):idx l i K:=by refine⟨?_⟩;exact⟨x,h,a⟩
def eZ1{T:Tab}{env:Nat->V}{ops:List Oper}{K:List (Nat×List Nat)->Prop}(h:cP6 T ops=true)(a:K []):aC9 T env ops K:=by refine⟨?_⟩;exact⟨[],[],trivial,h,a⟩
def cC0{T:Tab}{env:Nat->V}{ops:List Oper}{K:List (Nat×List Nat)->Prop}(a:List (Nat×Nat))(b:cO4 a env)(h:oO T a [] ops=true)(c:K []):aC9 T env ops K:=by refine⟨?_⟩;exact⟨a,[],b,h,c⟩
def bW8{T:Tab}{env:Nat->V}{ops:List Oper}{K:List (Nat×List Nat)->Prop}(a:List (Nat×Nat))(hv:List (Nat×List Nat))(b:cO4 a env)(h:oO T a hv ops=true)(c:K hv):aC9 T env ops K:=by refine⟨?_⟩;exact⟨a,hv,b,h,c⟩
def aS5{a:Md}{d:Nat}{f:FuncId}{xs ys:List V}{r:V}{K:VK}(g:Spec T P f ys r)(lend:Bool)(c:iQ T σ.ar ys xs)(b:sO a.light lend xs ys r=true)
 (e:zZ σ d (reuse σ (bD ys xs)) r λv h=>K v (appR (cond lend [] (aV σ (bK ys xs))) (appR (aX σ (bD ys xs)) h))):kY T P a σ d f xs K:=by
 refine⟨.inl ?_⟩;exact⟨ys,r,lend,c,b,g,e⟩
def aQ2{d:Nat}{f:FuncId}{xs ys:List V}{r:V}{K:VK}{j k g:Nat}{e:TypeId}{l b:List V}(n:bE5 T P f ys r j e b)(p:ys[j]? =some (.own e l))(o:xs[j]? =some (.arr k g))(i:iQ T σ.ar ys xs)(c:sO false false xs ys r=true)(h:aH7 r=true)
 (m:K r (appR (aV σ (bK ys xs)) (appR (aX σ (bD ys xs)) [.a k ⟨g, .own,e,b⟩]))):kY T P .free σ d f xs K:=by
 refine⟨.inr (.inl ⟨rfl,ys,r,j,k,g,e,l,b,i,c,n,p,o,h,m⟩)⟩
def fC9{a:Md}{d:Nat}{f:FuncId}{xs ys:List V}{bs b:List (List V)}{r:V}{K:VK}(i:aU2 T P f ys bs r b)(is:List Nat)(h:a.may d is ((xs,ys)::eU σ.bx bs is)=true)(e:xM T σ.ar is ((xs,ys)::eU σ.bx bs is))(c:zA σ.bx ((xs,ys)::eU σ.bx bs is) is bs r=true)
 (g:aX2 σ.bx σ.ar is (ownG ((xs,ys)::eU σ.bx bs is)) d r b λv j=>K v (appR (aV σ (mF ((xs,ys)::eU σ.bx bs is))) (appR (aX σ (ownG ((xs,ys)::eU σ.bx bs is))) j))):kY T P a σ d f xs K:=by
 refine⟨.inr (.inr (.inl ⟨ys,is,bs,r,b,h,e,c,i,g⟩))⟩
def call_n{d:Nat}{f:FuncId}{xs ys:List V}{a:List V}{K:VK}(i:SpecN T P f ys a)(g:iQ T σ.ar ys xs)(c:sO false false xs ys .bot=true)(e:σ.bx d=none)
 (h:K (.box d 0) (appR (aV σ (bK ys xs)) (appR (aX σ (bD ys xs)) [.b d a]))):kY T P .free σ d f xs K:=by
 refine⟨.inr (.inr (.inr ⟨rfl,ys,a,g,c,i,e,h⟩))⟩
def fA7{a:List ResultVar}{r:V}{bs:List (List V)}(h:aH3 T σ a λxs=>match xs with
 | [x] =>xM T σ.ar (iP bs 0) (([x],[r])::eU σ.bx bs (iP bs 0))/\aT2 σ.bx (([x],[r])::eU σ.bx bs (iP bs 0)) (iP bs 0)=true/\(∀a,r≠ .tup a)
 |xs=>∃ys,r= .tup ys/\xM T σ.ar (iP bs 0) ((xs,ys)::eU σ.bx bs (iP bs 0))/\aT2 σ.bx ((xs,ys)::eU σ.bx bs (iP bs 0)) (iP bs 0)=true):retB T σ a r bs:=⟨h⟩
def cA7{a:List ResultVar}{r:V}{j:Nat}{e:TypeId}{l:List V}(h:aH3 T σ a λxs=>match xs with
 | [x] =>iQ T σ.ar [r, .own e l] [x, .arr j 0]/\iR [x, .arr j 0] [r, .own e l] =true/\aH7 r=true/\(∀a,r≠ .tup a)
 |xs=>∃ys,r= .tup ys/\iQ T σ.ar (appR ys [.own e l]) (appR xs [.arr j 0])/\iR (appR xs [.arr j 0]) (appR ys [.own e l])=true):dC6 T σ a r j e l:=⟨h⟩
def ret_i{a:List ResultVar}{r:V}(h:aH3 T σ a λxs=>match xs with
 | [x] =>iQ T σ.ar [r] [x]/\iR [x] [r] =true/\(∀a,r≠ .tup a)
 |xs=>∃ys,r= .tup ys/\iQ T σ.ar ys xs/\iR xs ys=true):dF3 T σ a r:=by refine⟨.inl ?_⟩;exact h
def aP{ar:Nat->Option AE}{u a:Value}(h:a=u):iQ T ar [.lit u] [.lit a]/\iR [.lit a] [.lit u] =true/\(∀b,(V.lit u)≠ .tup b):=⟨⟨h,trivial⟩,rfl,λ_ h=>Ah⟩
def aG{ar:Nat->Option AE}{k:IntKind}{n a:Int}(h:a=n):iQ T ar [.lit (.int k n)] [.lit (.int k a)]/\iR [.lit (.int k a)] [.lit (.int k n)] =true/\(∀b,(V.lit (.int k n))≠ .tup b):=aP (by rw[h])
def aK{ar:Nat->Option AE}{n a:Bool}(h:a=n):iQ T ar [.lit (.bool n)] [.lit (.bool a)]/\iR [.lit (.bool a)] [.lit (.bool n)] =true/\(∀b,(V.lit (.bool n))≠ .tup b):=aP (by rw[h])
def eY0{en:AE}{g:Nat}{K:Prop}(a:en.gen=g)(b:en.kind≠ .dead)(c:K):need (en.gen=g/\en.kind≠ .dead) K:=fU ⟨a,b⟩ c
def iH{en:AE}{g e a size:Nat}{xs:List V}{K:Prop}(b:en.gen=g)(c:en.kind= .own\/en.kind= .ap)(d:en.ty=e)(j:a<=10000)(i:∀x∈xs,x.cells.length=size)(f:en.l.length+xs.length<=1000000000)(k:K):
 need (en.gen=g/\(en.kind= .own\/en.kind= .ap)/\en.ty=e/\(en.l.length+xs.length)*a<=140737488355328/\en.l.length+xs.length<=140737488355328/\∀x∈xs,x.cells.length=size) K:=
 fU ⟨b,c,d,SX (Vg f j) Ai,Aa,i⟩ k
def gX{a size:Nat}{xs:List V}{K:Prop}(d:a<=10000)(c:∀x∈xs,x.cells.length=size)(b:xs.length<=1000000000)(e:K):
 need (xs.length*a<=140737488355328/\xs.length<=140737488355328/\∀x∈xs,x.cells.length=size) K:=
 fU ⟨SX (Vg b d) Ai,Aa,c⟩ e
def dA{x:V}{n:Nat}(h:x.cells.length=n):∀y∈[x],y.cells.length=n:=λy a=>by cases S9.1 a;exact h
def bytes_i{xs:List V}{K:List Int->Prop}(ns:List Int)(h:xs=ns.map (λn=>V.lit (.int .u8 n)))(a:K ns):aZ0 xs K:=by refine⟨?_⟩;exact⟨ns,h,a⟩
def Le.trans{a b c:St}(d:Le T a b)(e:Le T b c):Le T a c:=by
 grind [Le]
def eV6{es:List V}{s:Value}{z:V}{K:V->Prop}{v:V}(h:(jG s es).getD z=v)(k:K v):eG6 es s z K:=⟨by rw[h];exact k⟩
def eS1{f:Operand}{g:FuncId}{b:List V}{ps wr:List Nat}{x y:aA2}{Q:Exit->St->Prop}(a:List (List V))(s:aB0 T P g b a)(r:∀d∈a,d.length=ps.length){A:Type}(st:A->St)(inv:Nat->A->Prop)(j:A)
 (m:Le T σ (st j))(n:inv 0 j)(q:(st j).ev f= .fn g b)(h:∀k p d,inv k p->a[k]? =some d->x ⟨cM2 ps d (st p).env,(st p).bx,(st p).ar⟩ λe l=>match e with
  | .normal=>y l λe c=>match e with
    | .normal=>∃p',Le T (sJ wr c) (st p')/\inv (k+1) p'
    | .ret=>Q .ret (sJ wr c)
    | .exit i=>Q (.exit i) (sJ wr c)
    |_=>False
  |_=>False)(o:∀p,inv a.length p->Q .normal (st p)):aO0 T P f g b ps wr x y σ Q:=⟨a,s,r,A,st,inv,⟨j,m,n,q⟩,h,o⟩
def fB{k:Nat}{en:AE}(h:σ.ar k=some en)(c:en.kind= .own\/en.kind= .ap):Le T σ (σ.apps [.a k ⟨en.gen, .frz,en.ty,en.l⟩]):=by
 unfold Le;intro Φ a w G inv;obtain⟨O',b,_,_⟩:=inv.freeze h c;exact⟨_,b⟩
def aL5(k g:Nat)(l:List V)(x:V):V:=match x with
 | .arr j g'=>cond (Nat.beq j k) (cond (Nat.beq g' g) (.sl l) .bot) (.arr j g')
 |x=>x
def eE7(k g:Nat)(l:List V)(x:V):V:=match x with
 | .arr j g'=>cond (Nat.beq j k) (cond (Nat.beq g' g) (.sl l) .bot) (.arr j g')
 | .agg xs=> .agg (mapR (aL5 k g l) xs)
 |x=>x
def fD0(k:Nat)(en:AE)(σ:St):St:=⟨λs=>eE7 k en.gen en.l (σ.env s),σ.bx,upd σ.ar k (some ⟨en.gen, .frz,en.ty,en.l⟩)⟩
theorem cM9{w:World}{G:Gh}{k g:Nat}{l:List V}{v:Value}{x:V}(f:Rv w G (G.av k g) (.sl l))(h:Rv w G v x):Rv w G v (aL5 k g l x):=by
 unfold aL5;split;rename_i j a;cases e:Nat.beq j k with
 |false=>exact h
 |true=>
  have c:j=k:=TR e;subst c;cases d:Nat.beq a g with
  |false=>exact .bot _
  |true=>
   have b:a=g:=TR d;subst b;rw[h.oQ];exact f
 exact h
theorem cJ0{p:Nat->Prop}{q:Nat->Nat->Prop}{k g:Nat}{l:List V}{x:V}(a:bM l)(h:x.ok p q):(aL5 k g l x).ok p q:=by
 unfold aL5;grind [Nat.beq,V.ok]
def eJ7{w:World}{G:Gh}{k g:Nat}{l:List V}{v:Value}{x:V}(b:Rv w G (G.av k g) (.sl l))(h:Rv w G v x):Rv w G v (eE7 k g l x):=by
 cases x with
 |agg xs=>
  show Rv w G v (.agg (mapR (aL5 k g l) xs));rw[dU];cases h with
  |agg cs _ a d n=>
   refine .agg cs _ (by simp[a]) d (λi c y m e=>?_);rw[Tf]at e;grind [cM9]
 |arr j f=>exact cM9 b h
 |_=>exact h
def eG5{p:Nat->Prop}{q:Nat->Nat->Prop}{k g:Nat}{l:List V}{x:V}(a:bM l)(h:x.ok p q):(eE7 k g l x).ok p q:=by
 cases x with
 |agg xs=>
  show(V.agg (mapR (aL5 k g l) xs)).ok p q;grind [dU,aH,cJ0,V.ok]
 |arr j b=>exact cJ0 a h
 |_=>exact h
def aZ8(k:Nat){en:AE}(h:σ.ar k=some en)(d:en.kind= .own\/en.kind= .ap):Le T σ (fD0 k en σ):=by
 unfold Le;intro Φ a w G inv;obtain⟨O',b,_,_⟩:=inv.freeze h d;have e:=inv.wfA k en h;have c:Rv w {G with O:=O'} (G.av k en.gen) (.sl en.l):=b.arr k ⟨en.gen, .frz,en.ty,en.l⟩ (upd_same _ _ _);refine⟨_,{b with env:=λs=>?_,wfE:=λs=>?_}⟩;exact eJ7 c (b.env s);exact eG5 e (b.wfE s)
def bB4{K:St->Prop}{a:St}(h:Le T σ a)(b:K a):cR5 T σ K:=⟨⟨a,h,b⟩⟩
end
end Go.Ab
