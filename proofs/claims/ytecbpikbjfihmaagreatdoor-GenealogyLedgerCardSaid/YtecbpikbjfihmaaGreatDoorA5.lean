/- Lemmas. -/
import Derived.Test.YtecbpikbjfihmaaGreatDoorA4
import Derived.KernelRfl
import Derived.Deep.Slices
import Derived.ChangeSame
import Derived.Carry
import Derived.OpenShut
import Derived.ProofKit
set_option linter.all false
set_option autoImplicit true
set_option relaxedAutoImplicit true
noncomputable section
namespace Go.Ab
def kW(b:List V):Nat->List V:=
 List.rec (motive:=λ_=>Nat->List V) (λ_=> []) (λy _ ih t=>cond (linear y) (.arr t 0) y::ih (t+1)) b
def bB3(bs:List (List V)):Nat->Nat->Option (List V):=
 List.rec (motive:=λ_=>Nat->Nat->Option (List V)) (λ_ _=>none) (λb _ ih j s=>cond (Nat.beq s (100000+j)) (some (kW b (100000*(j+1)))) (ih (j+1) s)) bs
def vT(bs:List (List V)):Nat->Nat->Option AE:=
 List.rec (motive:=λ_=>Nat->Nat->Option AE) (λ_ _=>none) (λb _ ih j s=>match jK b (100000*(j+1)) s with|some en=>some en|none=>ih (j+1) s) bs
def aG1(ys:List V)(bs:List (List V)):St:=⟨pF ys 0,bB3 bs 0,λs=>match jK ys 0 s with|some en=>some en|none=>vT bs 0 s⟩
def iP(bs:List (List V)):Nat->List Nat:=List.rec (motive:=λ_=>Nat->List Nat) (λ_=> []) (λ_ _ ih j=>(100000+j)::ih (j+1)) bs
def aT2(bx:Nat->Option (List V))(gs:Grp)(is:List Nat):Bool:=aE7 (ownG gs)&&allR (λk=> !memR k (mF gs)) (ownG gs)&&allR (λi=>isS (bx i)) is
structure retB(T:Tab)(σ:St)(rs:List ResultVar)(r:V)(bs:List (List V)):Prop where
 out:aH3 T σ rs λxs=>match xs with
  | [x] =>xM T σ.ar (iP bs 0) (([x],[r])::eU σ.bx bs (iP bs 0))/\aT2 σ.bx (([x],[r])::eU σ.bx bs (iP bs 0)) (iP bs 0)=true/\(∀rs,r≠ .tup rs)
  |xs=>∃ys,r= .tup ys/\xM T σ.ar (iP bs 0) ((xs,ys)::eU σ.bx bs (iP bs 0))/\aT2 σ.bx ((xs,ys)::eU σ.bx bs (iP bs 0)) (iP bs 0)=true
def jR(T:Tab)(P:Program)(fn:Func)(ys:List V)(bs:List (List V))(r:V)(bs':List (List V)):Prop:=
 match fn.body with
 |some c=>nH T P fn.ntmps c (aG1 ys bs) λe σ=>match e with
  | .normal=>retB T σ fn.results.toList r bs'
  | .ret=>retB T σ fn.results.toList r bs'
  |_=>False
 |none=>False
section
variable{T:Tab}{P:Program}{Φ:Fr}{σ:St}{a:Act}{w w':World}{G G':Gh}{K:VK}{o:Oper}{d:Nat}
theorem aH4:∀ b  t q,(kW b t)[q]? =(b[q]?).map λy=>cond (linear y) (.arr (t+q) 0) y:=by
 intro b;induction b with
 |nil=>intro t q;simp[kW]
 |cons y r c=>
  intro t q;have e:kW (y::r) t=cond (linear y) (.arr t 0) y::kW r (t+1):=rfl;grind
theorem aR6:∀ b  t,(kW b t).length=b.length:=by
 intro b;induction b with
 |nil=>intro t;rfl
 |cons y r c=>intro t;exact RI Nat.succ (c (t+1))
theorem bI8:∀ bs  j s,bB3 bs j s=if 100000+j<=s then(bs[s- (100000+j)]?).map λb=>kW b (100000*(s-100000+1))else none:=by
 intro bs;induction bs with
 |nil=>intro j s;show none=_;split<;>simp
 |cons b r g=>
  intro j s;show cond (Nat.beq s (100000+j)) (some (kW b (100000*(j+1)))) (bB3 r (j+1) s)=_;by_cases e:s=100000+j;simp_all;have f:Nat.beq s (100000+j)=false:=by rw[<-Ue,TJ];exact e
  rw[f,Tt,g];by_cases c:100000+(j+1)<=s;rw[QU c,QU Aa];rw[show s- (100000+j)=(s- (100000+(j+1)))+1 from Aa,SE];rw[Q9 c,Q9 Aa]
def cC7(y:∀b∈bs,b.length<100000):∀ {j s} {en},vT bs j s=some en->∃ i q  b,bs[i]? =some b/\s=100000*(j+i+1)+q/\q<b.length/\(b[q]? =some (.own en.ty en.l)/\en=⟨0, .own,en.ty,en.l⟩\/b[q]? =some (.ap en.ty en.l)/\en=⟨0, .ap,en.ty,en.l⟩):=by
 induction bs with
 |nil=>intro j s en h;cases h
 |cons b r A=>
  intro j s en h;have g:(match jK b (100000*(j+1)) s with|some en=>some en|none=>vT r (j+1) s)=some en:=h;split at g;rename_i n c;cases g;rw[gY]at c;split at c;rename_i z;split at c;rename_i e l f;cases c;exact⟨0,s-100000*(j+1),b,rfl,Aa,(QW.1 f).1, .inl ⟨f,rfl⟩⟩;rename_i e l f;cases c;exact⟨0,s-100000*(j+1),b,rfl,Aa,(QW.1 f).1, .inr ⟨f,rfl⟩⟩;cases c;cases c;let⟨i,q,m,t,u,v,x⟩:=A (λb k=>y b (by simp[k])) g;exact⟨i+1,q,m,t,by rw[u];omega,v,x⟩
def cU9:∀ {j i q} {b} {y},bs[i]? =some b->b[q]? =some y->linear y=true->∃en,vT bs j (100000*(j+i+1)+q)=some en:=by
 induction bs with
 |nil=>intro j i q b y h;simp at h
 |cons c r k=>
  intro j i q b y hb e g;show∃en,(match jK c (100000*(j+1)) (100000*(j+i+1)+q)with|some en=>some en|none=>vT r (j+1) (100000*(j+i+1)+q))=some en;cases f:jK c (100000*(j+1)) (100000*(j+i+1)+q)with
  |some en=>exact⟨en,rfl⟩
  |none=>
   simp only;cases i with
   |zero=>
    simp at hb;subst hb;rw[gY,QU Aa,show 100000*(j+0+1)+q-100000*(j+1)=q from Aa,e]at f;cases y<;>simp_all [linear]
   |succ i=>
    have:=k (j:=j+1) (i:=i) (q:=q) FP e g;grind
theorem bR0:∀ bs  j i,(iP bs j)[i]? =if i<bs.length then some (100000+(j+i))else none:=by
 intro bs;induction bs with
 |nil=>intro j i;simp[iP]
 |cons b r c=>
  intro j i;have e:iP (b::r) j=(100000+j)::iP r (j+1):=rfl;grind
def cD7 bs:∀j,(iP bs j).length=bs.length:=by
 induction bs with
 |nil=>intro j;rfl
 |cons b r c=>intro j;exact RI Nat.succ (c (j+1))
def cT3(h:aT2 bx gs is=true):(ownG gs).Nodup/\(∀k∈ownG gs,k∉mF gs)/\∀i∈is,∃cs,bx i=some cs:=by
 unfold aT2 at h;simp[Ru]at h;let⟨⟨b,e⟩,c⟩:=h;refine⟨uU.1 b,λk f g=>?_,λi hi=>?_⟩;grind [dY,pM];have:=dY.1 c i hi;unfold isS at this;grind
def lentL_nodup:∀ bs  j,(iP bs j).Nodup:=by
 intro bs;induction bs with
 |nil=>intro j;exact List.nodup_nil
 |cons b r c=>
  intro j;refine Va.2 ⟨λh=>?_,c (j+1)⟩;let⟨i,hi⟩:=RF (h:_∈iP r (j+1));have hi:(iP r (j+1))[i]? =some (100000+j):=hi;rw[bR0]at hi;split at hi;have:=UG hi;omega;cases hi
def handout(inv:Inv T Φ σ a w G){gs:Grp}(g:gs=(xs,ys)::eU σ.bx bs (iP bs 0))(h:GiveS T σ w G (iP bs 0) gs)(n:(ownG gs).Nodup)(e:∀k∈ownG gs,k∉mF gs)(l:∀i∈iP bs 0,∃cs,σ.bx i=some cs)
 {vs:List Value}(p:∀(i:Nat) v x,vs[i]? =some v->xs[i]? =some x->Rv w G v x/\x.ok σ.hasB σ.hasA):
 ∃c,(∀ j v y,vs[j]? =some v->ys[j]? =some y->RbB T w c bs.length j v y)/\BxOk T w c bs/\(∀i,i<bs.length->c.β (100000+i)=G.β (100000+i))/\(∀b,G.O b= .fz->c.O b= .fz)/\
  (∀b,c.O b≠ .ext->(G.O b= .fz/\c.O b= .fz)\/(∃k,G.O b= .ar k/\∀i,c.O b≠ .bx i)\/(∃i,i<bs.length/\b=G.β (100000+i)/\c.O b= .bx (100000+i)))/\xs.length=ys.length:=by
 let⟨c,B,C,D,E,F⟩:=giveout inv g h n e (lentL_nodup bs 0) (cD7 bs 0) l;have r:=(h 0 (xs,ys) (by rw[g];rfl)).1;refine⟨c,λj v y hv u=>?_,E,λi hi=>D i _ (by rw[bR0,QU hi,SX]),λb m=>C b (.inl m),λb m=>?_,r⟩
 ·have H:j<xs.length:=by rw[r];exact(QW.1 u).1
  have s:=QX H;let⟨z,A⟩:=p j v _ hv s;exact F j v _ y s u z A
 ·rcases B b with⟨q,f|⟨k,_,f⟩⟩|⟨k,_,f,t,q⟩|⟨j,i,f,I,q⟩|q
  ·exact .inl ⟨f,q⟩
  ·exact .inr (.inl ⟨k,f,by simp[q]⟩)
  ·exact .inr (.inl ⟨k,f,by simp[q]⟩)
  ·rw[bR0]at f
   grind
  ·exact(m q).elim
def handoutL(inv:Inv T Φ σ a w G)(e:iQ T σ.ar ys xs)(f:iR xs ys=true){vs:List Value}(g:∀(i:Nat) v x,vs[i]? =some v->xs[i]? =some x->Rv w G v x/\x.ok σ.hasB σ.hasA):
 ∃c,(∀ j v y,vs[j]? =some v->ys[j]? =some y->Rb T w c j v y)/\(∀b,G.O b= .fz->c.O b= .fz)/\(∀b,c.O b≠ .ext->(G.O b= .fz/\c.O b= .fz)\/(∃k,G.O b= .ar k/\∀i,c.O b≠ .bx i)\/(∃i,i<0/\b=G.β (100000+i)/\c.O b= .bx (100000+i))):=by
 simp[iR,Ru]at f;have h:ownG [(xs,ys)] =bD ys xs:=by rw[bT5];exact Rq _
 have l:mF [(xs,ys)] =bK ys xs:=by rw[cX2];exact Rq _
 let⟨c,m,_,_,n,p,_⟩:=handout inv (bs:=[]) (gs:=[(xs,ys)]) rfl (GiveS.ofL inv e) (by rw[h];exact uU.1 f.1) (by rw[h,l];grind [dY,pM]) (λi hi=>by cases hi) g;exact⟨c,λj v y hv q=>rb_of (m j v y hv q),n,p⟩
def frG(w:World)(G:Gh)(cs:Array Value)(n:Nat)(ys:List V)(bs:List (List V))(jo:Nat):Fr:=
 ⟨w,λb=>(∃j,G.O b= .ar j)\/(∃i,G.O b= .bx i),λb=>G.O b= .fz,n,λj=> @ite _ (j=jo/\j<8/\∃e l,ys[j]? =some (.own e l)) (Classical.propDecidable _) (some (cs.getD jo undef)) none,λi=>if 100000<=i/\i<100000+bs.length then some (G.β i)else none,[],λ_=>none⟩
set_option maxHeartbeats 3200000 in
def fnG_sound(hT:bP T P)(hm:P.follows .mixedOrders=true){f:FuncId}{I:Func}(hf:P.funcs[f]? =some I)(hc:callable P f=true){ys:List V}{bs ac:List (List V)}{X:Value->Array Value->World->Gh->Prop}(jo:Nat)(hn:ys.length<=I.ntmps)(a9:I.ntmps<100000\/bs=[])(h8:bs.length<=8)(ak:∀b∈bs,b.length<100000)(am:ac.map List.length=bs.map List.length){R:St->Prop}
 (h:match I.body with
  |some c=>nH T P I.ntmps c (aG1 ys bs) λe σ=>match e with
   | .normal=>R σ
   | .ret=>R σ
   |_=>False
  |none=>False)
 (a4:∀(w:World) (G:Gh) (cs:Array Value) (σ:St) (a':Act) (w':World) (G':Gh),(∀(j:Nat) y,ys[j]? =some y->RbB T w G bs.length j (cs.getD j undef) y)->R σ->Inv T (frG w G cs I.ntmps ys bs jo) σ a' w' G'->
  ∃(vs:List Value) (D:Gh),(results I a'.tmps).run P w'= .ok (aI1 vs) w'/\X (aI1 vs) cs w' D/\BxOk T w' D ac/\(∀i,i<bs.length->D.β (100000+i)=G'.β (100000+i))/\(∀b,G'.O b= .fz->D.O b= .fz)/\
   (∀b,D.O b≠ .ext->(G'.O b= .fz/\D.O b= .fz)\/(∃k,G'.O b= .ar k/\∀i,D.O b≠ .bx i)\/(∃i,i<bs.length/\b=G'.β (100000+i)/\D.O b= .bx (100000+i)))):SpecG T P f ys bs ac X:=by
 refine⟨hc,am,?_⟩;intro w G cs a8 ay a6 al ai bc;split at h
 ·rename_i c hb
  let Φ:Fr:=frG w G cs I.ntmps ys bs jo;let n:Nat->Nat->Value:=λj q=>match w.heap[G.β (100000+j)]? with|some (.cells c _ _)=>c.getD q undef|_=>undef
  let G0:Gh:={G with av:=λk _=>if k<ys.length then cs.getD k undef else n (k/100000-1) (k% 100000)};have af:∀k,k<ys.length->G0.av k 0=cs.getD k undef:=λk hk=>by simp only[G0];rw[QU hk]
  have a0:∀ {j b},bs[j]? =some b->ys.length<100000:=λh=>by
   have L:=(QW.1 h).1;have h3:I.ntmps<100000\/bs.length=0:=a9.imp id (RI List.length);omega
  have ao:∀ {j b},bs[j]? =some b->∀q,q<100000->G0.av (100000*(j+1)+q) 0=n j q:=fun {j b} hb q C=>by
   have:=a0 hb;show(if 100000*(j+1)+q<ys.length then cs.getD _ undef else n ((100000*(j+1)+q)/100000-1) ((100000*(j+1)+q)% 100000))=_;rw[Q9 Aa];rw[show(100000*(j+1)+q)/100000-1=j from Aa,show(100000*(j+1)+q)% 100000=q from Aa]
  have F:Keep w w G G0:=⟨λ_ h=>h,λ_ _=>rfl⟩
  have an:∀(j:Nat) y,ys[j]? =some y->RbB T w G bs.length j (cs.getD j undef) y:=by
   intro j y z;have hj:j<cs.size:=by rw[a8];exact(QW.1 z).1
   exact ai j _ y (by simp[hj]) z
  have bd:∀ {j u e l},gJ T w G j u e l->u.oneCell'=true:=by
   intro j u e l h;rcases h with⟨h,_⟩|⟨b,cap,cur,h,_⟩;exact aP2 h;rw[h];rfl
  have bb:∀ {u l},Rv w G u (.cap l)->u.oneCell'=true:=by
   intro u l h;rcases h.vP with⟨h,_⟩|⟨ad,sz,cc,h,_⟩<;>(rw[h];rfl)
  have B:∀ {j v y},RbB T w G bs.length j v y->linear y=false->y.ok (λi=>100000<=i/\i<100000+bs.length) (λ_ _=>False)/\Rv w G0 v y:=by
   intro j v y hr H
   have:y.ok (λi=>100000<=i/\i<100000+bs.length) (λ_ _=>False)/\Rv w G v y:=by
    unfold RbB at hr;grind [linear]
   exact⟨this.1,this.2.keep F this.1 (λ_ _=>rfl) (λ_ _ h=>h.elim)⟩
  have a1:∀ {j v y},RbB T w G bs.length j v y->linear y=true->v.oneCell'=true:=by
   grind [oW,RbB]
  have A:∀(j:Nat) b,bs[j]? =some b->G.O (G.β (100000+j))= .bx (100000+j)/\∃c t,w.heap[G.β (100000+j)]? =some (.cells c t (0,0))/\c.size=b.length/\
   ∀(q:Nat) y,b[q]? =some y->c[q]? =some (n j q)/\(n j q).oneCell'=true/\RbB T w G bs.length (100000*(j+1)+q) (n j q) y:=by
   intro j b hb;obtain⟨q1,c,t,U,S,q4⟩:=al j b hb;refine⟨q1,c,t,U,S,λq y z=>?_⟩;have C:q<c.size:=by rw[S];exact(QW.1 z).1
   have e1:n j q=c[q] :=by simp only[n];rw[U];simp[C]
   grind
  have Z:∀i r,bB3 bs 0 i=some r->∃j b,i=100000+j/\bs[j]? =some b/\r=kW b (100000*(j+1)):=by
   intro i r hi;rw[bI8]at hi;split at hi;rename_i bf;cases g:bs[i- (100000+0)]? with
   |none=>rw[g]at hi;cases hi
   |some b=>
    rw[g]at hi;simp only[Tj,SI]at hi;exact⟨i-100000,b,Aa,by simpa using g,hi.symm⟩
   cases hi
  have aq:∀j b,bs[j]? =some b->bB3 bs 0 (100000+j)=some (kW b (100000*(j+1))):=by
   intro j b g;rw[bI8,QU Aa,show 100000+j- (100000+0)=j from Aa,g];rfl
  have J:∀i,(100000<=i/\i<100000+bs.length)->(aG1 ys bs).hasB i:=by
   rintro i ⟨L,N⟩;have hj:i-100000<bs.length:=Aa;have:=aq (i-100000) bs[i-100000] (QX hj);rw[show 100000+(i-100000)=i from Aa]at this;exact⟨_,this⟩
  have Y:∀(s:Nat) y,ys[s]? =some y->linear y=true->(aG1 ys bs).hasA s 0:=by
   intro s y z H
   have:∃en,jK ys 0 s=some en:=by
    rw[gY];simp only[RY,Uy,Nat.sub_zero,z];cases y<;>simp_all [linear]
   obtain⟨en,E⟩:=this;exact⟨en,by show(match jK ys 0 s with|some en=>some en|none=>vT bs 0 s)=_;rw[E],RY _⟩
  have aj:∀(j q:Nat) b y,bs[j]? =some b->b[q]? =some y->linear y=true->(aG1 ys bs).hasA (100000*(j+1)+q) 0:=by
   intro j q b y g z H;obtain⟨en,E⟩:=cU9 (j:=0) g z H;rw[SX]at E
   have h0:jK ys 0 (100000*(j+1)+q)=none:=by
    have:=a0 g;rw[gY];grind
   exact⟨en,by show(match jK ys 0 _ with|some en=>some en|none=>vT bs 0 _)=_;rw[h0];exact E,RY _⟩
  have M:∀k en,(aG1 ys bs).ar k=some en->∃v y,RbB T w G bs.length k v y/\G0.av k 0=v/\((y= .own en.ty en.l/\en=⟨0, .own,en.ty,en.l⟩)\/(y= .ap en.ty en.l/\en=⟨0, .ap,en.ty,en.l⟩)):=by
   intro k en E;have aa:(match jK ys 0 k with|some en=>some en|none=>vT bs 0 k)=some en:=E;split at aa;rename_i be h0;cases aa;rw[gY]at h0;grind;obtain⟨i,q,b,L,N,h3,h4⟩:=cC7 ak aa;rw[SX]at N;have C:q<100000:=by have:=ak b (QZ L);omega
   obtain⟨_,c,t,_,_,a7⟩:=A i b L;subst N;rcases h4 with⟨h4,h5⟩|⟨h4,h5⟩;grind;grind
  have inv:Inv T Φ (aG1 ys bs) {tmps:=cs++Array.replicate (I.ntmps-cs.size) undef,defers:=[]} w G0:=by
   constructor;rfl;intro s v h;cases h;show(cs++Array.replicate (I.ntmps-cs.size) undef).size=I.ntmps;simp;omega;intro s;show Rv w G0 ((cs++Array.replicate (I.ntmps-cs.size) undef).getD s undef) (pF ys 0 s);rw[lY];simp only[RY,Uy,Nat.sub_zero];by_cases hs:s<cs.size
   have hv:(cs++Array.replicate (I.ntmps-cs.size) undef).getD s undef=cs.getD s undef:=by
    simp[Array.getElem?_append_left hs]
   have z:ys[s]? =some ys[s] :=QX Aa;rw[hv,z];have hr:=an s _ z;generalize ys[s] =y at*;simp only;cases H:linear y with
   |false=>exact(B hr H).2
   |true=>
    have L:=a1 hr H;have e:=af s Aa;rw[<-e]at L⊢;exact Rv.arr (w:=w) (G:=G0) s 0 L
   have z:ys[s]? =none:=TG Aa;rw[z]
   have hv:(cs++Array.replicate (I.ntmps-cs.size) undef).getD s undef=undef:=by
    exact Qn
   rw[hv];exact xK w G0;intro s;show(pF ys 0 s).ok _ _;rw[lY];simp only[RY,Uy,Nat.sub_zero];cases z:ys[s]? with
   |none=>simp only[V.ok,V.okL]
   |some y=>
    simp only;have hr:=an s y z;cases H:linear y with
    |false=>exact V.ok.imp J (λ_ _ h=>h.elim) _ (B hr H).1
    |true=>
     simp only[TD,V.ok];exact Y s y z H
   intro i r hi;obtain⟨j,b,rfl,g,rfl⟩:=Z i r hi;obtain⟨q1,c,t,U,S,q4⟩:=A j b g;refine⟨c,t,U,⟨by rw[aR6];simpa using S,λv hv=>?_,λq v x hv Q=>?_⟩,q1⟩;obtain⟨q,C⟩:=RF hv;have ba:q<b.length:=by rw[<-S];simpa using(QW.1 C).1
   obtain⟨k1,k2,_⟩:=q4 q _ (QX ba);grind;rw[aH4]at Q;cases z:b[q]? with
   |none=>rw[z]at Q;cases Q
   |some y=>
    rw[z]at Q;simp only[Tj,SI]at Q;obtain⟨k1,k2,k3⟩:=q4 q y z;have az:c[q]? =some v:=BH;rw[k1]at az;cases az
    have C:q<100000:=by
     have L:=ak b (QZ g);grind
    cases H:linear y with
    |false=>rw[H]at Q;simp only[Tt]at Q;subst Q;exact(B k3 H).2
    |true=>
     rw[H]at Q;simp only[TD]at Q;subst Q;have e:=ao g q C;rw[<-e]at k2⊢;exact Rv.arr (w:=w) (G:=G0) _ 0 k2
   intro i r hi;obtain⟨j,b,rfl,g,rfl⟩:=Z i r hi;obtain⟨q1,c,t,U,S,q4⟩:=A j b g;refine aH.2 λx Q=>?_;obtain⟨q,C⟩:=RF Q;rw[aH4]at C;cases z:b[q]? with
   |none=>rw[z]at C;cases C
   |some y=>
    rw[z]at C;simp only[Tj,SI]at C;obtain⟨k1,k2,k3⟩:=q4 q y z;cases H:linear y with
    |false=>rw[H]at C;simp only[Tt]at C;subst C;exact V.ok.imp J (λ_ _ h=>h.elim) _ (B k3 H).1
    |true=>rw[H]at C;simp only[TD]at C;subst C;simp only[V.ok];exact aj j q b y g z H
   intro k en E;obtain⟨v,y,L,N,h3⟩:=M k en E;have hO:∀b,G.O b= .ar k->G0.O b= .ar k/\w.heap[b]? =w.heap[b]? :=λb hb=>⟨hb,rfl⟩;rcases h3 with⟨rfl,h4⟩|⟨rfl,h4⟩;obtain⟨q1,U,S⟩:=L;rw[h4];unfold gW;refine⟨q1,?_⟩;show gJ T w G0 k (G0.av k 0) _ _;rw[N];exact S.keep F U hO;obtain⟨q1,U,S⟩:=L;rw[h4];unfold gW;refine⟨q1,?_⟩;show gJ T w G0 k (G0.av k 0) _ _\/(Rv w G0 (G0.av k 0) _/\_);rw[N];rcases S with q|q;exact .inl (q.keep F U hO);exact .inr ⟨q.1.aW F (by simp only[V.pure,V.ok];exact U),q.2⟩;intro k en E;obtain⟨v,y,L,N,h3⟩:=M k en E;rcases h3 with⟨rfl,h4⟩|⟨rfl,h4⟩;exact L.2.1;exact L.2.1;exact ay;intro b i g;exact .inr (.inr ⟨i,g⟩);intro b k g;exact .inr (.inl ⟨k,g⟩);intro b g;exact .inl g;intro b g;exact g;intro b _ _;rfl;exact Rf _;rfl;rfl;rfl;intro j v h;have W:(@ite _ (j=jo/\j<8/\∃e l,ys[j]? =some (.own e l)) (Classical.propDecidable _) (some (cs.getD jo undef)) none)=some v:=h;split at W;rename_i hh;cases W;obtain⟨rfl,a5,e,l,z⟩:=hh;obtain⟨en,q,_⟩:=Y j _ z rfl;exact⟨af j (QW.1 z).1,a5,en,q⟩;cases W;show T.lay w (λb=>G.O b= .fz)/\∀b,G.O b= .fz->b<w.heap.size/\¬((∃j,G.O b= .ar j)\/∃i,G.O b= .bx i);grind;intro i b W;have ah:(if 100000<=i/\i<100000+bs.length then some (G.β i)else none)=some b:=W;split at ah;rename_i hi;cases ah;exact⟨rfl,⟨hi.1,Aa⟩,J i hi⟩;cases ah
  refine wM hT hm hf hb (Φ:=Φ) rfl rfl rfl inv h ?_
  have ae:∀(σ:St) (a':Act) (w':World) (G':Gh),R σ->Inv T Φ σ a' w' G'->∃v,(results I a'.tmps).run P w'= .ok v w'/\∃v0 D,(Ending.returned v= .returned v0)/\X v0 cs w' D/\BxOk T w' D ac/\(∀i,i<bs.length->D.β (100000+i)=G.β (100000+i))/\(∀b i,D.O b= .bx i->100000<=i/\i<100000+bs.length/\b=D.β i)/\
   (∀b,G.O b= .fz->D.O b= .fz)/\(∀b,D.O b≠ .ext->b<w'.heap.size)/\
   (∀b,D.O b≠ .ext->(G.O b= .fz/\D.O b= .fz)\/w.heap.size<=b\/(∃j,G.O b= .ar j)\/(∃i,G.O b= .bx i/\D.O b= .bx i))/\
   (∀b,b<w.heap.size->(∀j,G.O b≠ .ar j)->(∀i,G.O b≠ .bx i)->w'.heap[b]? =w.heap[b]?)/\
   w.heap.size<=w'.heap.size/\w'.os=w.os/\w'.tape=w.tape/\w'.output=w.output:=by
   intro σ a' w' G' ax m;obtain⟨vs,D,aw,hX,U,S,q4,q5⟩:=a4 w G cs σ a' w' G' an ax m
   have ab:∀i,i<bs.length->G'.β (100000+i)=G.β (100000+i)/\G'.O (G.β (100000+i))= .bx (100000+i):=λi hi=>by
    obtain⟨e1,_,a3,au⟩:=m.argb (100000+i) (G.β (100000+i)) (by show(if 100000<=100000+i/\100000+i<100000+bs.length then some (G.β (100000+i))else none)=_;rw[QU (by omega)]);obtain⟨_,_,_,_,hO⟩:=m.box _ a3 au;exact⟨e1,by rw[<-e1];exact hO⟩
   have a2:∀b i,G.O b= .bx i->G'.O b= .bx i:=λb i N=>by
    obtain⟨z1,z2,z3⟩:=a6 b i N;have:=(ab (i-100000) Aa).2;rw[show 100000+(i-100000)=i from Aa,<-z3]at this;exact this
   refine⟨aI1 vs,aw,aI1 vs,D,rfl,hX,U,λi hi=>(S i hi).trans (ab i hi).1,λb i hb=>?_,λb hb=>q4 b (m.F0 b hb),λb hb=>m.tag b ?_,λb hb=>?_,λb hb hj hi=>m.frame b hb (by
    rintro(⟨j,h⟩|⟨i,h⟩);exact hj j h
    exact hi i h),m.size,m.os,m.tape,m.output⟩
   ·rcases q5 b AV with⟨_,h⟩|⟨_,_,h⟩|⟨j,hj,h,W⟩
    ·rw[h]at hb;cases hb
    ·exact(h i hb).elim
    ·rw[W]at hb
     cases hb;exact⟨Aa,Aa,by rw[S j hj];exact h⟩
   ·rcases q5 b hb with⟨h,_⟩|⟨k,h,_⟩|⟨i,hi,h,_⟩
    ·rw[h];simp
    ·rw[h];simp
    ·rw[h,(ab i hi).1,(ab i hi).2];simp
   ·have ag:(∀i,G'.O b≠ .bx i)->Φ.mine b->w.heap.size<=b\/(∃j,G.O b= .ar j)\/(∃i,G.O b= .bx i/\D.O b= .bx i):=by
     rintro hn (h|h|⟨i,h⟩)
     ·exact .inl h
     ·exact .inr (.inl h)
     ·exact(hn i (a2 b i h)).elim
    rcases q5 b hb with⟨h,W⟩|⟨k,h,_⟩|⟨i,hi,h,W⟩
    ·rcases m.fzm b h with N|N
     ·exact .inl ⟨N,W⟩
     ·exact .inr (ag Fv N)
    ·exact .inr (ag Fv (m.mineA b k h))
    ·rw[(ab i hi).1]at h
     refine .inr (.inr (.inr ⟨100000+i,?_,W⟩));rw[h];exact(A i bs[i] (QX hi)).1
  intro e σ a' w' G' C m;cases e with
  |normal=>exact⟨.inl rfl,ae σ a' w' G' C m⟩
  |ret=>exact⟨.inr rfl,ae σ a' w' G' C m⟩
  |_=>exact(C:False).elim
 ·exact h.elim
theorem initStB_nil ys:aG1 ys [] =uD ys:=by
 unfold aG1 uD;congr 1;funext s;cases jK ys 0 s<;>rfl
def tup_many(h:vs.length≠1):aI1 vs= .tuple vs.toArray:=by
 match vs,h with
 | [],_=>rfl
 |v::u::r,_=>rfl
def rr_one(h:∀rs,r≠ .tup rs)(b:Rb T w G 0 v r):Rr T w G v r:=by
 unfold Rr;split;exact absurd rfl (h _);exact absurd rfl (h _);exact b
def rr_many(b:∀q,ys≠ .bot::q)(e:vs.length=ys.length)(c:vs.length≠1)(g:∀(j:Nat) v y,vs[j]? =some v->ys[j]? =some y->Rb T w G j v y):Rr T w G (aI1 vs) (.tup ys):=by
 rw[gG2 b];exact⟨vs.toArray,tup_many c,by simp[e],λj u y hu f=>g j u y Bv f⟩
def eH1(B:bP T P)(U:P.follows .mixedOrders=true)(S:P.funcs[f]? =some A)(C:callable P f=true)(W:ys.length<=A.ntmps)(h:fnVC T P A ys r):Spec T P f ys r:=by
 refine dY8.g.2 (fnG_sound B U S C 0 W (.inr rfl) (RY _) (λb hb=>by cases hb) rfl (R:=λσ=>dF3 T σ A.results.toList r) (by rw[initStB_nil];exact h) ?_);intro w G cs σ a' w' G' _ e l;have q:∀w G,BxOk T w G [] :=λw G i b hb=>I8;rcases e.out with e|e;rotate_left;let⟨xs,vs,t,hl1,D,z,n⟩:=aQ5 B l _ _ e;have m:=aD1 n;split at t;obtain⟨k,cs,rfl,rfl,g1,g2⟩:=t;obtain⟨v,rfl⟩:∃v,vs=[v] :=UK.1 hl1;let⟨F,H⟩:=z 0 v (.agg cs) rfl rfl
 obtain⟨s,rfl,hl,X,C⟩:∃s,v= .agg s/\s.size=cs.length/\(∀c∈s,c.oneCell'=true)/\∀(i:Nat) c x,s[i]? =some c->cs[i]? =some x->Rv w' G' c x:=by
  cases F<;>grind
 have E:=aH.1 (by simpa only[V.ok]using H:V.okL σ.hasB σ.hasA cs);let⟨Gr,q1,I,J⟩:=handoutL l g1 g2 (vs:=s.toList) (λi u x hu M=>⟨C i u x Bv M,E x (QZ M)⟩);have L:=(qM g1).1;exact⟨_,Gr,m,⟨⟨s,rfl,Aa,X,λj u y hu Z=>q1 j u y Bv Z⟩,trivial⟩,q _ _,(λi hi=>absurd hi (Nat.not_lt_zero _)),I,J⟩;exact t.elim;let⟨xs,vs,t,hl1,D,z,n⟩:=aQ5 B l _ _ e;have m:=aD1 n
 suffices Y:∃k,iQ T σ.ar k xs/\iR xs k=true/\∀Gr,(∀ j  v y,vs[j]? =some v->k[j]? =some y->Rb T w' Gr j v y)->Rr T w' Gr (aI1 vs) r by
  let⟨k,N,O,Q⟩:=Y;let⟨Gr,q1,I,J⟩:=handoutL l N O z;exact⟨vs,Gr,m,⟨Q Gr q1,trivial⟩,q _ _,(λi hi=>absurd hi (Nat.not_lt_zero _)),I,J⟩
 split at t;rename_i x;let⟨g1,g2,g3⟩:=t;exact OW;rename_i hne;obtain⟨k,rfl,g1,g2⟩:=t;refine⟨k,g1,g2,λGr q1=>rr_many (gB6 g1) (hl1.trans (qM g1).1) (λh=>?_) q1⟩;exact OD
def cE4(M:bP T P)(Z:P.follows .mixedOrders=true)(W:P.funcs[f]? =some D)(U:callable P f=true)(hn:ys.length<=D.ntmps)(F:c<8)(C:ys[c]? =some (.own n O))(h:fnIO T P D ys r c n lo):bE5 T P f ys r c n lo:=by
 refine dY8.g.2 (fnG_sound M Z W U c hn (.inr rfl) (RY _) (λb hb=>by cases hb) rfl (R:=λσ=>dC6 T σ D.results.toList r c n lo) (by rw[initStB_nil];exact h) ?_);intro w G cs σ a' w' G' J A m;obtain⟨xs,vs,H,hl1,Y,aa,B⟩:=aQ5 M m _ _ A.out;have z:=aD1 B;obtain⟨s,_,E,t⟩:=m.args c (cs.getD c undef) (by show @ite _ _ (Classical.propDecidable _) _ _=_;rw[QU ⟨rfl,F,n,O,C⟩])
 have u:(cs.getD c undef).oneCell'=true:=by
  rcases(J c _ C).2.2 with⟨h,_⟩|⟨b,cap,cur,h,_⟩;exact aP2 h;rw[h];rfl
 have I:Rv w' G' (cs.getD c undef) (.arr c 0)/\(V.arr c 0).ok σ.hasB σ.hasA:=by
  refine⟨?_,by simp only[V.ok];exact⟨E,t,RY _⟩⟩;have:=Rv.arr (w:=w') (G:=G') c 0 (by rw[s];exact u);rw[s]at this;exact this
 suffices hs:∃k,iQ T σ.ar (k++[.own n lo]) (xs++[.arr c 0])/\iR (xs++[.arr c 0]) (k++[.own n lo])=true/\∀Gr,(∀(j:Nat) v y,vs[j]? =some v->k[j]? =some y->Rb T w' Gr j v y)->Rr T w' Gr (aI1 vs) r by
  obtain⟨k,L,Q,S⟩:=hs;have l:=(qM L).1;simp only[QY,Ro,Tc]at l
  obtain⟨Gr,q1,q2,q3⟩:=handoutL m L Q (vs:=vs++[cs.getD c undef]) (λi v x hv hx=>by
   rcases Sj i vs.length with hi|hi;grind
   have X:i=vs.length:=by
    grind
   simp_all)
  have N:=q1 vs.length (cs.getD c undef) (.own n lo) Ad (by rw[U1 (by omega)];rw[show vs.length-k.length=0 by omega];rfl);exact⟨vs,Gr,z,⟨S Gr λj v y hv hy=>Bg,N.2.1,_,N.2.2⟩,(λi b hb=>I8),(λi hi=>absurd hi (Nat.not_lt_zero _)),q2,q3⟩
 split at H;rename_i x;obtain⟨g1,g2,_,g3⟩:=H;exact OW;rename_i hne;obtain⟨k,rfl,g1,g2⟩:=H;rw[bT,bT]at g1 g2;have l:=(qM g1).1;simp only[QY,Ro,Tc]at l;refine⟨k,g1,g2,λGr q1=>rr_many (λq e=>by subst e;exact gB6 g1 (q++[.own n lo]) rfl) Aa (λh=>?_) q1⟩;exact OD
def dP3(F:bP T P)(W:P.follows .mixedOrders=true)(S:P.funcs[f]? =some l)(Q:callable P f=true)(X:ys.length<=l.ntmps)(D:l.ntmps<100000)(O:bs.length<=8)(A:∀b∈bs,b.length<100000)(hlens:c.map List.length=bs.map List.length)(h:jR T P l ys bs r c):aU2 T P f ys bs r c:=by
 refine fnG_sound F W S Q 0 X (.inl D) O A hlens (R:=λσ=>retB T σ l.results.toList r c) h ?_;intro w G cs σ a' w' G' _ q g;let⟨xs,vs,C,hl1,U,E,s⟩:=aQ5 F g _ _ q.out;have n:=aD1 s;have B:=DT
 suffices Y:∃e,xM T σ.ar (iP c 0) ((xs,e)::eU σ.bx c (iP c 0))/\aT2 σ.bx ((xs,e)::eU σ.bx c (iP c 0)) (iP c 0)=true/\∀i,xs.length=e.length->(∀ j  v y,vs[j]? =some v->e[j]? =some y->RbB T w' i bs.length j v y)->RrB T w' i bs.length (aI1 vs) r by
  let⟨e,L,M,N⟩:=Y;let⟨k1,k2,k3⟩:=cT3 M;let⟨i,k,q2,H,q4,I,q6⟩:=handout g rfl (.ofB g L) k1 k2 k3 E;rw[B]at k H I;exact⟨vs,i,n,N i q6 k,q2,H,q4,I⟩
 split at C;rename_i x;let⟨t,z,J⟩:=C;obtain⟨v,rfl⟩:∃v,vs=[v] :=UK.1 hl1;refine⟨[r],t,z,λi _ k=>?_⟩;have:=k 0 v r rfl rfl;unfold RrB;split;exact absurd rfl (J _);exact this;rename_i hne;obtain⟨e,rfl,t,z⟩:=C;refine⟨e,t,z,λi m k=>⟨vs.toArray,tup_many λh=>?_,by simp[hl1,m],λj u y hu Z=>k j u y Bv Z⟩⟩;exact OD
end
def dU6(u' u:Value):Prop:=
 match u with
 | .int k n=>match u' with| .int k' n'=>k'=k/\n'=n|_=>False
 | .bool b=>match u' with| .bool b'=>b'=b|_=>False
 |u=>u'=u
def wk1(ar r:Nat->Option AE)(x y:V):Prop:=
 match y with
 | .bot=>True
 | .lit u=>match x with| .lit u'=>dU6 u' u|_=>False
 | .sl l=>match x with
   | .sl l'=>l'=l
   | .cap l'=>l'=l
   | .lit (.slice none 0 0)=>l=[]
   | .arr k g=>match ar k with
     |some en=>match en.kind with
      | .frz=>en.gen=g/\en.l=l
      |_=>False
     |none=>False
   |_=>False
 | .arr k g=>match x with
   | .arr k' g'=>k'=k/\g'=g
   | .lit (.slice none 0 0)=>match ar k with
     |none=>match r k with
      |some en=>en.gen=g
      |none=>False
     |some _=>False
   |_=>False
 | .box i o=>match x with| .box i' o'=>i'=i/\o'=o|_=>False
 | .cap l=>match x with| .cap l'=>l'=l| .lit (.slice none 0 0)=>l=[] |_=>False
 | .fp l=>match x with| .fp l'=>l'=l|_=>False
 | .fn g l=>match x with| .fn g' l'=>g'=g/\l'=l|_=>False
 | .ae k g z i o=>match x with| .ae k' g' z' i' o'=>k'=k/\g'=g/\z'=z/\i'=i/\o'=o|_=>False
 |_=>False
def wkL(ar r:Nat->Option AE)(ys:List V):List V->Prop:=
 List.rec (motive:=λ_=>List V->Prop) (λxs=>match xs with| [] =>True|_::_=>False)
  (λy _ ih xs=>match xs with|x::xr=>wk1 ar r x y/\ih xr| [] =>False) ys
def wkV(ar r:Nat->Option AE)(x y:V):Prop:=
 match y with
 | .agg ys=>match x with| .agg xs=>wkL ar r ys xs|_=>False
 |y=>wk1 ar r x y
def bX7(a b:AK):Prop:=
 match b with
 | .own=>match a with| .own=>True|_=>False
 | .ap=>match a with| .own=>True| .ap=>True|_=>False
 | .frz=>match a with| .frz=>True|_=>False
 | .dead=>match a with| .dead=>True|_=>False
def wkAE(T:Tab)(o:Option AE)(en:AE):Prop:=
 match o with
 |some en0=>en0.gen=en.gen/\bX7 en0.kind en.kind/\en0.ty=en.ty/\en0.l=en.l
 |none=>bX7 .own en.kind/\en.l=[]/\Nat.blt en.ty (T.n en.ty)=true
def wfC1(b:Nat->Option (List V))(x:V):Prop:=
 match x with
 | .box i _=>match b i with|some _=>True|none=>False
 | .fp _=>True
 | .lit _=>True
 | .own _ [] =>True
 | .ap _ _=>True
 | .sl _=>True
 |_=>False
def wfC(b:Nat->Option (List V))(l:List V):Prop:=List.rec (motive:=λ_=>Prop) True (λx _ ih=>wfC1 b x/\ih) l
def wf1(b:Nat->Option (List V))(r:Nat->Option AE)(x:V):Prop:=
 match x with
 | .box i _=>match b i with|some _=>True|none=>False
 | .arr k g=>match r k with|some en=>g<=en.gen|none=>False
 | .ae k g _ _ _=>match r k with|some en=>g<=en.gen|none=>False
 | .fn _ l=>wfC b l
 |_=>True
def wfL(b:Nat->Option (List V))(r:Nat->Option AE)(l:List V):Prop:=List.rec (motive:=λ_=>Prop) True (λx _ ih=>wf1 b r x/\ih) l
def wfV(b:Nat->Option (List V))(r:Nat->Option AE)(x:V):Prop:=
 match x with
 | .agg cs=>wfL b r cs
 |x=>wf1 b r x
def wkE(σ:St)(b:Nat->Option (List V))(r:Nat->Option AE)(e:List (Nat×V)):Prop:=
 List.rec (motive:=λ_=>Prop) True (λp _ ih=>(wkV σ.ar r (σ.env p.1) p.2/\wfV b r p.2)/\ih) e
def wkB(σ:St)(b:Nat->Option (List V))(r:Nat->Option AE)(l:List (Nat×List V)):Prop:=
 List.rec (motive:=λ_=>Prop) True (λp _ ih=>(match σ.bx p.1 with|some cs=>wkL σ.ar r p.2 cs/\wfL b r p.2|none=>False)/\ih) l
def wkA(T:Tab)(σ:St)(l:List (Nat×AE)):Prop:=
 List.rec (motive:=λ_=>Prop) True (λp _ ih=>wkAE T (σ.ar p.1) p.2/\ih) l
theorem eJ6(h:dU6 c u):c=u:=by
 unfold dU6 at h;grind
section
variable{T:Tab}{Φ:Fr}{σ:St}{a:Act}{w:World}{G:Gh}{b:Nat->Option (List V)}{r:Nat->Option AE}
def xI(σ:St)(G:Gh):Gh:={G with av:=λk g=>match σ.ar k with|none=> .slice none 0 0|some _=>G.av k g}
def bD1 σ w G:Keep w w G (xI σ G):=⟨λ_ h=>h,λ_ _=>rfl⟩
def eB6(h:σ.hasA k g):(xI σ G).av k g=G.av k g:=by
 let⟨en,h,_⟩:=h;simp[xI,h]
def eX8{τ:St}:wfC τ.bx l->V.okL p q l->V.okL τ.hasB τ.hasA l:=by
 induction l with
 |nil=>intro _ _;simp[V.okL]
 |cons x r i=>
  intro h c;obtain⟨e,g⟩:wfC1 τ.bx x/\wfC τ.bx r:=h;simp[V.okL]at c⊢;refine⟨?_,i g c.2⟩;have d:=c.1;unfold wfC1 at e;split at e;split at e;rename_i cs f;simp[V.ok];exact⟨cs,f⟩;exact e.elim;simp[V.ok]at d⊢;exact d;simp[V.ok];simp[V.ok,V.okL];simp[V.ok]at d⊢;exact d;simp[V.ok]at d⊢;exact d;exact e.elim
theorem aG3(inv:Inv T Φ σ a w G)(m:Rv w G v x)(c:x.ok σ.hasB σ.hasA)(h:wk1 σ.ar r x y)(hw:wf1 b r y)(τ:St)(u:τ.bx=b)(A:τ.ar=r):
 Rv w (xI σ G) v y/\y.ok τ.hasB τ.hasA:=by
 have f:=m.keep (bD1 σ w G) c (λ_ _=>rfl) (λk g h=>eB6 h);subst u A;unfold wk1 at h;split at h
 ·exact⟨.bot v,BN⟩
 ·grind [eJ6,V.ok]
 ·split at h
  ·grind [V.ok]
  ·subst h;exact⟨f.wK,by simp[V.ok]at c⊢;exact c⟩
  ·subst h
   have:=m.bH;subst this;exact⟨.slN,Et⟩
  ·split at h
   ·rename_i k g _ en hen
    split at h
    ·rename_i s
     let⟨rfl,rfl⟩:=h;have n:=inv.arr k en hen;unfold gW at n;rw[s]at n;have hp:=inv.wfA k en hen;have t:(V.sl en.l).pure:=AP;have hv:=m.oQ;rw[hv];exact⟨(n:Rv w G _ _).aW (bD1 σ w G) t,by simp[V.ok];exact hp⟩
    ·exact h.elim
   ·exact h.elim
  ·exact h.elim
 ·rename_i k g
  have j:τ.hasA k g:=Ld;split at h
  ·grind [V.ok]
  ·split at h
   ·rename_i d
    split at h
    ·have hv:=m.bH
     subst hv;have e:(xI σ G).av k g= .slice none 0 0:=by simp[xI,d]
     rw[<-e];exact⟨.arr k g (by rw[e];rfl),by simp[V.ok];exact j⟩
    ·exact h.elim
   ·exact h.elim
  ·exact h.elim
 ·split at h
  ·let⟨rfl,rfl⟩:=h
   refine⟨f,?_⟩;unfold wf1 at hw;simp only at hw;split at hw
   ·rename_i cs q;simp[V.ok];exact⟨cs,q⟩
   ·exact hw.elim
  ·exact h.elim
 ·split at h
  ·grind [V.ok]
  ·subst h
   have:=m.bH;subst this;exact⟨.capN,Et⟩
  ·exact h.elim
 ·grind [V.ok]
 ·split at h
  ·let⟨rfl,rfl⟩:=h
   refine⟨f,?_⟩;simp[V.ok]at c⊢;exact eX8 (τ:=τ) hw c
  ·exact h.elim
 ·rename_i k g z i o
  have j:τ.hasA k g:=Ld;grind [V.ok]
 ·exact h.elim
def bL3:∀ {xs},wkL ar r ys xs->wfL b r ys->xs.length=ys.length/\∀(i:Nat) x y,xs[i]? =some x->ys[i]? =some y->wk1 ar r x y/\wf1 b r y:=by
 induction ys with
 |nil=>
  intro xs h _;cases xs with
  |nil=>exact⟨rfl,λi x y hx=>I7⟩
  |cons x xr=>exact(h:False).elim
 |cons y c f=>
  intro xs h e;cases xs with
  |nil=>exact(h:False).elim
  |cons x xr=>
   let⟨j,d⟩:=(h:wk1 ar r x y/\wkL ar r c xr);let⟨m,g⟩:=(e:wf1 b r y/\wfL b r c);let⟨k,l⟩:=f d g;grind
def bT8(inv:Inv T Φ σ a w G)(l:Rv w G v x)(e:x.ok σ.hasB σ.hasA)(h:wkV σ.ar r x y)(k:wfV b r y)(τ:St)(m:τ.bx=b)(n:τ.ar=r):
 Rv w (xI σ G) v y/\y.ok τ.hasB τ.hasA:=by
 unfold wkV at h;split at h
 ·rename_i ys
  split at h
  ·rename_i xs
   let⟨q1,o⟩:=bL3 h k;obtain⟨cs,rfl,g,j,hrel⟩:=l.zV;simp[V.ok]at e
   have d:∀(i:Nat) c y,cs[i]? =some c->ys[i]? =some y->Rv w (xI σ G) c y/\y.ok τ.hasB τ.hasA:=by
    intro i c y f hy;have hi:i<xs.length:=Ff;grind [aG3,aH,TL]
   refine⟨.agg cs ys Aa j λi c y f hy=>(d i c y f hy).1,?_⟩;simp[V.ok];rw[aH];intro y hy;let⟨i,hi⟩:=RF hy;have hlt:i<cs.size:=by rw[g,q1];exact(QW.1 hi).1
   exact(d i cs[i] y IG hi).2
  ·exact h.elim
 ·grind [aG3,wfV]
def dT6 s:ofL c l s=c\/∃p∈l,p.1=s/\ofL c l s=p.2:=by
 induction l with
 |nil=>exact .inl rfl
 |cons p q f=>
  have e:ofL c (p::q) s=cond (Nat.beq s p.1) p.2 (ofL c q s):=rfl;grind [Nat.beq,Td]
def aF5(h:ofO l s=some x):∃p∈l,p.1=s/\p.2=x:=by
 induction l with
 |nil=>cases h
 |cons p q e=>
  have d:ofO (p::q) s=cond (Nat.beq s p.1) (some p.2) (ofO q s):=rfl;grind [Nat.beq,Td]
def cP0(h:wkE σ b r e):∀p∈e,wkV σ.ar r (σ.env p.1) p.2/\wfV b r p.2:=by
 induction e with
 |nil=>intro p hp;cases hp
 |cons q l ih=>
  let⟨h1,h2⟩:=(h:(wkV σ.ar r (σ.env q.1) q.2/\wfV b r q.2)/\wkE σ b r l);intro p hp;exact Qp
def cF4(h:wkB σ b r l):∀p∈l,∃cs,σ.bx p.1=some cs/\wkL σ.ar r p.2 cs/\wfL b r p.2:=by
 induction l with
 |nil=>intro p c;cases c
 |cons q l e=>
  let⟨f,d⟩:=(h:(match σ.bx q.1 with|some cs=>wkL σ.ar r q.2 cs/\wfL b r q.2|none=>False)/\wkB σ b r l);intro p c;rcases Rl.1 c with rfl|c;grind;exact e d p c
def cO0(h:wkA T σ l):∀p∈l,wkAE T (σ.ar p.1) p.2:=by
 induction l with
 |nil=>intro p hp;cases hp
 |cons q l ih=>
  let⟨h1,h2⟩:=(h:wkAE T (σ.ar q.1) q.2/\wkA T σ l);intro p hp;exact Qp
def cR3(inv:Inv T Φ σ a w G)(d:σ.ar k=some c)(e:c.gen=en.gen)(f:bX7 c.kind en.kind)(g:c.ty=en.ty)(h:c.l=en.l):gW T w G k en:=by
 have i:=inv.arr k c d;grind [bX7,gW]
def has8(o p:Option AE):Prop:=match o with|none=>True|some _=>(match p with|some _=>True|none=>False)
def aN5(o p:Option (List V)):Prop:=match o with|none=>True|some _=>(match p with|some _=>True|none=>False)
def wk8b(ar r:Nat->Option (List V)):Prop:=aN5 (ar 100000) (r 100000)/\aN5 (ar 100001) (r 100001)/\aN5 (ar 100002) (r 100002)/\aN5 (ar 100003) (r 100003)/\aN5 (ar 100004) (r 100004)/\aN5 (ar 100005) (r 100005)/\aN5 (ar 100006) (r 100006)/\aN5 (ar 100007) (r 100007)
def dS5{ar r}(h:wk8b ar r)(q:100000<=j/\j<100008)(n:ar j=some en):∃c,r j=some c:=by
 have key:∀{o p},aN5 o p->o=some en->∃c,p=some c:=by
  intro o p h ho;exact Qd
 let⟨d,e,f,g,i,k,l,m⟩:=h;grind
def wk8(ar r:Nat->Option AE):Prop:=has8 (ar 0) (r 0)/\has8 (ar 1) (r 1)/\has8 (ar 2) (r 2)/\has8 (ar 3) (r 3)/\has8 (ar 4) (r 4)/\has8 (ar 5) (r 5)/\has8 (ar 6) (r 6)/\has8 (ar 7) (r 7)
def dT9(h:wk8 ar r)(q:j<8)(c:ar j=some en):∃d,r j=some d:=by
 have key:∀{o p},has8 o p->o=some en->∃d,p=some d:=by
  intro o p h ho;exact Qd
 let⟨e,f,g,i,k,l,m,n⟩:=h;match j,q with
 |0,_=>exact key e c
 |1,_=>exact key f c
 |2,_=>exact key g c
 |3,_=>exact key i c
 |4,_=>exact key k c
 |5,_=>exact key l c
 |6,_=>exact key m c
 |7,_=>exact key n c
def dV(P:wk8 σ.ar (ofO q)/\wk8b σ.bx (ofO o))(Q:wkA T σ q)(R:wkB σ (ofO o) (ofO q) o)(S:wkE σ (ofO o) (ofO q) e):Le T σ (mkSt e o q):=by
 unfold Le;intro Φ a w G inv;have B:∀s,(mkSt e o q).env s= .bot\/∃p∈e,p.1=s/\(mkSt e o q).env s=p.2:=λs=>dT6 s;have D:∀k g,σ.hasA k g->(xI σ G).av k g=G.av k g:=λk g h=>eB6 h;refine⟨xI σ G,?_⟩;refine {nd:=inv.nd,kp:=inv.kp,sz:=inv.sz,env:= ?_,wfE:= ?_,box:= ?_,wfB:= ?_,arr:= ?_,wfA:= ?_,tag:=inv.tag,mineB:=inv.mineB,mineA:=inv.mineA,fzm:=inv.fzm,F0:=inv.F0,lay:=inv.lay,frame:=inv.frame,size:=inv.size,os:=inv.os,tape:=inv.tape,output:=inv.output,args:=λj v h=>⟨(D j 0 ⟨_,(inv.args j v h).2.2.choose_spec,RY _⟩).trans (inv.args j v h).1,(inv.args j v h).2.1,dT9 P.1 (inv.args j v h).2.1 (inv.args j v h).2.2.choose_spec⟩,argb:=λi F h=>⟨(inv.argb i F h).1,(inv.argb i F h).2.1,dS5 P.2 (inv.argb i F h).2.1 (inv.argb i F h).2.2.choose_spec⟩};intro s;rcases B s with h|⟨p,m,rfl,h⟩;rw[h];exact .bot _;rw[h];let⟨u,l⟩:=cP0 S p m;exact(bT8 inv (inv.env p.1) (inv.wfE p.1) u l (mkSt e o q) rfl rfl).1;intro s;rcases B s with h|⟨p,m,rfl,h⟩;rw[h];simp[V.ok];rw[h];let⟨u,l⟩:=cP0 S p m;exact(bT8 inv (inv.env p.1) (inv.wfE p.1) u l (mkSt e o q) rfl rfl).2;intro i cs hi;obtain⟨p,m,rfl,rfl⟩:=aF5 hi;let⟨d,f,u,l⟩:=cF4 R p m;let⟨c,t,N,A,O⟩:=inv.box p.1 d f;let⟨q1,M⟩:=bL3 u l;refine⟨c,t,N,⟨by rw[A.len,q1],A.one,λi v y hv hy=>?_⟩,O⟩;have hlt:i<d.length:=Ff;have n:d[i]? =some d[i] :=IG;let⟨K,L⟩:=M i d[i] y n hy;exact(aG3 inv (A.rel i v d[i] hv n) (aH.1 (inv.wfB p.1 d f) _ (TL hlt)) K L (mkSt e o q) rfl rfl).1;intro i cs hi;obtain⟨p,m,rfl,rfl⟩:=aF5 hi;let⟨d,f,u,l⟩:=cF4 R p m;let⟨c,t,N,A,O⟩:=inv.box p.1 d f;let⟨q1,M⟩:=bL3 u l;rw[aH];intro y hy;let⟨i,E⟩:=RF hy;have hlt:i<d.length:=by rw[q1];exact(QW.1 E).1
 have n:d[i]? =some d[i] :=IG;have X:i<c.toList.length:=by rw[A.len];exact hlt
 let⟨K,L⟩:=M i d[i] y n E;exact(aG3 inv (A.rel i c.toList[i] d[i] Ad n) (aH.1 (inv.wfB p.1 d f) _ (TL hlt)) K L (mkSt e o q) rfl rfl).2;intro k en H;obtain⟨p,m,rfl,rfl⟩:=aF5 H;have h:=cO0 Q p m;unfold wkAE at h;split at h;rename_i C z;have J:=cR3 inv z h.1 h.2.1 h.2.2.1 h.2.2.2;refine J.keep (bD1 σ w G) ?_ ?_ (λb W=>⟨W,rfl⟩);rw[<-h.2.2.2];exact inv.wfA _ _ z;exact D _ _ ⟨C,z,Aa⟩;rename_i z;let⟨u,l,U⟩:=h;have x:(xI σ G).av p.1 p.2.gen= .slice none 0 0:=by simp[xI,z]
 have hlt:=blt U;unfold gW;split;rw[l];trivial;rename_i I;rw[I]at u;exact u.elim;rw[x,l];exact⟨hlt, .inl ⟨.inl rfl,rfl⟩⟩;rw[x,l];exact⟨hlt, .inl (.inl ⟨.inl rfl,rfl⟩)⟩;intro k en H;obtain⟨p,m,rfl,rfl⟩:=aF5 H;have h:=cO0 Q p m;unfold wkAE at h;split at h;rename_i C z;rw[<-h.2.2.2];exact inv.wfA _ _ z;rw[h.2.1];simp[V.okL]
end
section
variable{T:Tab}{P:Program}{σ:St}
def eY7(h:x σ λe a=>match e with
 | .normal=>y a Q
 |e=>Q e a):dG2 T x y σ Q:=by refine⟨?_⟩;exact .inl h
def dJ4{x y:aA2}{Q:Exit->St->Prop}(A:Type)(st:A->St)(inv:A->Prop)(h:x σ λe a=>match e with
 | .normal=>∃p,Le T a (st p)/\inv p
 |e=>Q e a)(b:∀p,inv p->y (st p) Q):dG2 T x y σ Q:=by refine⟨?_⟩;exact .inr ⟨⟨A,st,inv,λ_=>0⟩,h,b⟩
def lD{x:aA2}{Q:Exit->St->Prop}{A:Type}(st:A->St)(inv:A->Prop)(m:A->Nat)(b:A)(c:Le T σ (st b))(d:inv b)(h:∀p,inv p->x (st p) λe a=>match e with
 | .normal=>∃p',Le T a (st p')/\inv p'/\m p'<m p
 |e=>Q e a):bI0 T x σ Q:=by refine⟨?_⟩;exact⟨⟨A,st,inv,m⟩,⟨b,c,d⟩,h⟩
theorem jU{A B}(a:b=true->A)(c:b=false->B):branch b A B:=by
 cases b;exact c rfl;exact a rfl
theorem dC8:ltB a b=true↔a<b:=by unfold ltB;simp
def eU6:ltB a b=false↔b<=a:=by unfold ltB;simp
theorem bV6:leB a b=true↔a<=b:=by unfold leB;simp
def eU7:leB a b=false↔b<a:=by unfold leB;simp
theorem aA1:eqB a b=true↔a=b:=by unfold eqB;simp
def dY0:eqB a b=false↔a≠b:=by unfold eqB;simp
theorem eQ7 a b:andB a b=(a&&b):=by unfold andB;rfl
theorem cA1 a b:eqBB a b=(a==b):=by unfold eqBB;rfl
def br_lt{A B}(c:a<b->A)(d:b<=a->B):branch (ltB a b) A B:=jU (λh=>c (dC8.1 h)) (λh=>d (eU6.1 h))
def br_le{A B}(c:a<=b->A)(d:b<a->B):branch (leB a b) A B:=jU (λh=>c (bV6.1 h)) (λh=>d (eU7.1 h))
def eV7{A B}(c:a=b->A)(d:a≠b->B):branch (eqB a b) A B:=jU (λh=>c (aA1.1 h)) (λh=>d (dY0.1 h))
def eZ2{A B}(h:branch b B A):branch (!b) A B:=by cases b<;>exact h
theorem mG a b:maxI a b=max a b:=by unfold maxI;split<;>omega
theorem lH a b:minI a b=min a b:=by unfold minI;split<;>omega
def eH4(h: -9223372036854775808<=n/\n<=9223372036854775807)(a:K n):arith .i64 n K:=by
 refine⟨?_⟩;rw[show IntKind.wrap .i64 n=n from IntWalk.i64_in _ Aa];exact a
def fU(h:p)(a:K):need p K:=by refine⟨?_⟩;exact⟨h,a⟩
def eQ9{a:Type}{f}{l:List a}(hi:i<l.length)(h:∀x,l[i]? =some x->K (f x)):idx (l.map f) i K:=by
 refine⟨?_⟩;exact⟨f l[i],by simp[hi],h _ (by simp[hi])⟩
def dE3 x(h:l[i]? =some x)(a:K x):idx l i K:=by refine⟨?_⟩;exact⟨x,h,a⟩
def eZ1(h:cP6 T ops=true)(a:K []):aC9 T env ops K:=by refine⟨?_⟩;exact⟨[],[],trivial,h,a⟩
def cC0 a(b:cO4 a env)(h:oO T a [] ops=true)(c:K []):aC9 T env ops K:=by refine⟨?_⟩;exact⟨a,[],b,h,c⟩
def bW8 a hv(b:cO4 a env)(h:oO T a hv ops=true)(c:K hv):aC9 T env ops K:=by refine⟨?_⟩;exact⟨a,hv,b,h,c⟩
def aS5(g:Spec T P f ys r) lend(c:iQ T σ.ar ys xs)(b:sO a.light lend xs ys r=true)
 (e:zZ σ d (reuse σ (bD ys xs)) r λv h=>K v (appR (cond lend [] (aV σ (bK ys xs))) (appR (aX σ (bD ys xs)) h))):kY T P a σ d f xs K:=by
 refine⟨.inl ?_⟩;exact⟨ys,r,lend,c,b,g,e⟩
def aQ2(n:bE5 T P f ys r j e b)(p:ys[j]? =some (.own e l))(o:xs[j]? =some (.arr k g))(i:iQ T σ.ar ys xs)(c:sO false false xs ys r=true)(h:aH7 r=true)
 (m:K r (appR (aV σ (bK ys xs)) (appR (aX σ (bD ys xs)) [.a k ⟨g, .own,e,b⟩]))):kY T P .free σ d f xs K:=by
 refine⟨.inr (.inl ⟨rfl,ys,r,j,k,g,e,l,b,i,c,n,p,o,h,m⟩)⟩
def fC9(i:aU2 T P f ys bs r b) is(h:a.may d is ((xs,ys)::eU σ.bx bs is)=true)(e:xM T σ.ar is ((xs,ys)::eU σ.bx bs is))(c:zA σ.bx ((xs,ys)::eU σ.bx bs is) is bs r=true)
 (g:aX2 σ.bx σ.ar is (ownG ((xs,ys)::eU σ.bx bs is)) d r b λv j=>K v (appR (aV σ (mF ((xs,ys)::eU σ.bx bs is))) (appR (aX σ (ownG ((xs,ys)::eU σ.bx bs is))) j))):kY T P a σ d f xs K:=by
 refine⟨.inr (.inr ⟨ys,is,bs,r,b,h,e,c,i,g⟩)⟩
def fA7{rs:List ResultVar}{r:V}{bs:List (List V)}(h:aH3 T σ rs λxs=>match xs with
 | [x] =>xM T σ.ar (iP bs 0) (([x],[r])::eU σ.bx bs (iP bs 0))/\aT2 σ.bx (([x],[r])::eU σ.bx bs (iP bs 0)) (iP bs 0)=true/\(∀rs,r≠ .tup rs)
 |xs=>∃ys,r= .tup ys/\xM T σ.ar (iP bs 0) ((xs,ys)::eU σ.bx bs (iP bs 0))/\aT2 σ.bx ((xs,ys)::eU σ.bx bs (iP bs 0)) (iP bs 0)=true):retB T σ rs r bs:=⟨h⟩
def cA7{rs:List ResultVar}{r:V}{j:Nat}{e:TypeId}{l:List V}(h:aH3 T σ rs λxs=>match xs with
 | [x] =>iQ T σ.ar [r, .own e l] [x, .arr j 0]/\iR [x, .arr j 0] [r, .own e l] =true/\aH7 r=true/\(∀rs,r≠ .tup rs)
 |xs=>∃ys,r= .tup ys/\iQ T σ.ar (appR ys [.own e l]) (appR xs [.arr j 0])/\iR (appR xs [.arr j 0]) (appR ys [.own e l])=true):dC6 T σ rs r j e l:=⟨h⟩
def ret_i{rs:List ResultVar}{r:V}(h:aH3 T σ rs λxs=>match xs with
 | [x] =>iQ T σ.ar [r] [x]/\iR [x] [r] =true/\(∀rs,r≠ .tup rs)
 |xs=>∃ys,r= .tup ys/\iQ T σ.ar ys xs/\iR xs ys=true):dF3 T σ rs r:=by refine⟨.inl ?_⟩;exact h
def gI0{rs:List ResultVar}{r:V}(h:aH3 T σ rs λxs=>match xs with
 | [x] =>∃ys cs,r= .tup (.bot::ys)/\x= .agg cs/\iQ T σ.ar ys cs/\iR cs ys=true
 |_=>False):dF3 T σ rs r:=by refine⟨.inr ?_⟩;exact h
def aP(h:a=u):iQ T ar [.lit u] [.lit a]/\iR [.lit a] [.lit u] =true/\(∀rs,(V.lit u)≠ .tup rs):=⟨⟨h,trivial⟩,rfl,λ_ h=>Ah⟩
def aG(h:a=n):iQ T ar [.lit (.int k n)] [.lit (.int k a)]/\iR [.lit (.int k a)] [.lit (.int k n)] =true/\(∀rs,(V.lit (.int k n))≠ .tup rs):=aP (by rw[h])
def aK(h:a=n):iQ T ar [.lit (.bool n)] [.lit (.bool a)]/\iR [.lit (.bool a)] [.lit (.bool n)] =true/\(∀rs,(V.lit (.bool n))≠ .tup rs):=aP (by rw[h])
def eY0{en:AE}(a:en.gen=g)(b:en.kind≠ .dead)(c:K):need (en.gen=g/\en.kind≠ .dead) K:=fU ⟨a,b⟩ c
def iH{en:AE}{g e a size:Nat}{xs:List V}(b:en.gen=g)(c:en.kind= .own\/en.kind= .ap)(d:en.ty=e)(j:a<=10000)(i:∀x∈xs,x.cells.length=size)(f:en.l.length+xs.length<=1000000000)(k:K):
 need (en.gen=g/\(en.kind= .own\/en.kind= .ap)/\en.ty=e/\(en.l.length+xs.length)*a<=140737488355328/\en.l.length+xs.length<=140737488355328/\∀x∈xs,x.cells.length=size) K:=
 fU ⟨b,c,d,Rz (UQ f j) Ai,Aa,i⟩ k
def gX{xs:List V}(d:a<=10000)(c:∀x∈xs,x.cells.length=size)(b:xs.length<=1000000000)(e:K):
 need (xs.length*a<=140737488355328/\xs.length<=140737488355328/\∀x∈xs,x.cells.length=size) K:=
 fU ⟨Rz (UQ b d) Ai,Aa,c⟩ e
def dA{x:V}(h:x.cells.length=n):∀y∈[x],y.cells.length=n:=λy a=>by cases Ri.1 a;exact h
def Le.trans(d:Le T a b)(e:Le T b c):Le T a c:=by
 grind [Le]
def eV6(h:(jG s es).getD z=v)(k:K v):eG6 es s z K:=⟨by rw[h];exact k⟩
def eS1{f:Operand}{g:FuncId}{b:List V}{ps wr:List Nat}{x y:aA2}{Q:Exit->St->Prop}(a:List (List V))(s:aB0 T P g b a)(r:∀d∈a,d.length=ps.length){A:Type}(st:A->St)(inv:Nat->A->Prop)(j:A)
 (m:Le T σ (st j))(n:inv 0 j)(q:(st j).ev f= .fn g b)(h:∀k p d,inv k p->a[k]? =some d->x ⟨cM2 ps d (st p).env,(st p).bx,(st p).ar⟩ λe l=>match e with
  | .normal=>y l λe c=>match e with
    | .normal=>∃p',Le T (sJ wr c) (st p')/\inv (k+1) p'
    | .ret=>Q .ret (sJ wr c)
    | .exit i=>Q (.exit i) (sJ wr c)
    |_=>False
  |_=>False)(o:∀p,inv a.length p->Q .normal (st p)):aO0 T P f g b ps wr x y σ Q:=⟨a,s,r,A,st,inv,⟨j,m,n,q⟩,h,o⟩
theorem fB(h:σ.ar k=some en)(c:en.kind= .own\/en.kind= .ap):Le T σ (σ.apps [.a k ⟨en.gen, .frz,en.ty,en.l⟩]):=by
 unfold Le;intro Φ a w G inv;let⟨O',b,_,_⟩:=inv.freeze h c;exact⟨_,b⟩
def aL5(k g:Nat)(l:List V)(x:V):V:=match x with
 | .arr j g'=>cond (Nat.beq j k) (cond (Nat.beq g' g) (.sl l) .bot) (.arr j g')
 |x=>x
def eE7(k g:Nat)(l:List V)(x:V):V:=match x with
 | .arr j g'=>cond (Nat.beq j k) (cond (Nat.beq g' g) (.sl l) .bot) (.arr j g')
 | .agg xs=> .agg (mapR (aL5 k g l) xs)
 |x=>x
def fD0(k:Nat)(en:AE)(σ:St):St:=⟨λs=>eE7 k en.gen en.l (σ.env s),σ.bx,upd σ.ar k (some ⟨en.gen, .frz,en.ty,en.l⟩)⟩
theorem cM9(hl:Rv w G (G.av k g) (.sl l))(h:Rv w G v x):Rv w G v (aL5 k g l x):=by
 unfold aL5;split;exact JC;exact h
theorem cJ0(a:bM l)(h:x.ok p q):(aL5 k g l x).ok p q:=by
 unfold aL5;grind [Nat.beq,V.ok]
def eJ7(b:Rv w G (G.av k g) (.sl l))(h:Rv w G v x):Rv w G v (eE7 k g l x):=by
 cases x with
 |agg xs=>
  show Rv w G v (.agg (mapR (aL5 k g l) xs));rw[dU];cases h with
  |agg cs _ a d n=>
   refine .agg cs _ (by simp[a]) d (λi c y m e=>?_);rw[RN]at e;grind [cM9]
 |arr j f=>exact cM9 b h
 |_=>exact h
def eG5(a:bM l)(h:x.ok p q):(eE7 k g l x).ok p q:=by
 cases x with
 |agg xs=>
  show(V.agg (mapR (aL5 k g l) xs)).ok p q;grind [dU,aH,cJ0,V.ok]
 |arr j b=>exact cJ0 a h
 |_=>exact h
def aZ8 k(h:σ.ar k=some en)(d:en.kind= .own\/en.kind= .ap):Le T σ (fD0 k en σ):=by
 unfold Le;intro Φ a w G inv;let⟨O',b,_,_⟩:=inv.freeze h d;have e:=inv.wfA k en h;have c:=b.arr k ⟨en.gen, .frz,en.ty,en.l⟩ (upd_same _ _ _);refine⟨_,{b with env:=λs=>?_,wfE:=λs=>?_}⟩;exact eJ7 c (b.env s);exact eG5 e (b.wfE s)
def meltM(k g:Nat)(v:V)(x:V):V:=match x with
 | .arr j g'=>cond (Nat.beq j k) (cond (Nat.beq g' g) v .bot) (.arr j g')
 |x=>x
def meltMap(k g:Nat)(ty:TypeId)(v:V)(σ:St):St:=⟨λs=>meltM k g v (σ.env s),λi=>match σ.bx i with|none=>none|some l=>some (mapR (meltM k g v) l),upd σ.ar k (some ⟨g, .dead,ty,[]⟩)⟩
def meltM_rv(hl:Rv w G (G.av k g) u)(h:Rv w G v x):Rv w G v (meltM k g u x):=by
 unfold meltM;split;exact JC;exact h
def meltM_ok(b:u.pure)(h:x.ok p q):(meltM k g u x).ok p q:=by
 unfold meltM;split;rename_i j a;cases d:Nat.beq j k with
 |false=>exact h
 |true=>
  cases c:Nat.beq a g with
  |false=>simp[cond,V.ok]
  |true=>exact b.ok _ _
 exact h
def le_frzm k e(h:σ.ar k=some ⟨g, .dead,ty, .bot::es⟩)(L:cD3 (T.row (T.row ty).alen).kd e=true):Le T σ (meltMap k g ty (V.mapV e es) σ):=by
 unfold Le;intro Φ a w G inv;have K:=inv.arr k _ h;have N:bM es:=by have:=inv.wfA k _ h;simp[bM,V.okL]at this;exact this.2
 have hd:=lit_key L;let⟨b,f,n,C,M,q3,Q,R⟩:=(K:bL6 _ w G k _ es);rw[<-hd]at Q R;let O':Nat->Tag:=λb=>match G.O b with| .ar j=>if j=k then .fz else .ar j|t=>t
 have o:∀b,G.O b≠ .ar k->O' b=G.O b:=by
  grind
 have H:∀b,G.O b= .ar k->O' b= .fz:=by
  grind
 have I:Keep w w G {G with O:=O'}:=⟨λb hb=>(o b AV).trans hb,λ_ _=>rfl⟩
 have d:Inv T Φ (σ.apps [.a k ⟨g, .dead,ty,[]⟩]) a w {G with O:=O'}:=by
  refine inv.zU (w':=w) (k:=k) (en:=⟨g, .dead,ty,[]⟩) (av':=G.av) (O':=O') (λg' ⟨S,C,M⟩=>by rw[h]at C;cases C;exact M) (λ_ _ _=>rfl) GH trivial (λb _ hb=>o b hb) ?_ (λ_ _ _=>rfl) (Rf _) rfl rfl rfl;grind
 let val:Value->Value:=λs=>match Instr.findNow (litD e) s f.toList 0 with|some (some (_,v))=>v|_=>undef
 have q6:∀s x,MapKept.IsKey (litD e) s->jG s es=some x->∃i,Instr.findNow (litD e) s f.toList 0=some (some (i,val s))/\(val s).oneCell'=true/\Rv w G (val s) x:=by
  grind
 have q:Rv w {G with O:=O'} (G.av k g) (V.mapV e es):=by
  rw[C];refine .mp b f n 0 e es val (H b M) q3 Q (λs B m=>?_) (λs x B m=>?_) (λs x B m=>?_);have:=R s B;rw[m]at this;exact this;simp_all;let⟨i,r1,r2,r3⟩:=q6 s x B m;exact r3.aW I (assoc_pure N m)
 have u:(V.mapV e es).pure:=by simp[V.mapV,V.pure,V.ok,V.okL,UJ,true_and];exact N
 have F:∀i,(σ.apps [.a k ⟨g, .dead,ty,[]⟩]).hasB i->(meltMap k g ty (V.mapV e es) σ).hasB i:=λi ⟨l,r⟩=>⟨mapR (meltM k g (V.mapV e es)) l,by
  show(match σ.bx i with|none=>none|some l=>some (mapR (meltM k g (V.mapV e es)) l))=_
  have J:σ.bx i=some l:=r;rw[J]⟩
 have bx:∀i cs,(meltMap k g ty (V.mapV e es) σ).bx i=some cs->∃l,σ.bx i=some l/\cs=l.map (meltM k g (V.mapV e es)):=by
  intro i cs hi;have aa:(match σ.bx i with|none=>none|some l=>some (mapR (meltM k g (V.mapV e es)) l))=some cs:=hi;grind [dU]
 refine⟨_,{d with env:=λs=>?_,wfE:=λs=>?_,box:=λi cs hi=>?_,wfB:=λi cs hi=>?_,argb:=λi b hb=>?_}⟩;exact meltM_rv q (d.env s);exact V.ok.imp F (λ_ _ h=>h) _ (meltM_ok u (d.wfE s));obtain⟨l,r,rfl⟩:=bx i cs hi;let⟨c,t,U,E,W⟩:=d.box i l r;refine⟨c,t,U,⟨by simpa using E.len,E.one,λj v x hv m=>?_⟩,W⟩;rw[RN]at m;cases A:l[j]? with
 |none=>rw[A]at m;cases m
 |some y=>
  rw[A]at m;cases m;exact meltM_rv q (E.rel j v y hv A)
 obtain⟨l,r,rfl⟩:=bx i cs hi;refine aH.2 λy A=>?_;obtain⟨z,L,rfl⟩:=Rn.1 A;exact V.ok.imp F (λ_ _ h=>h) _ (meltM_ok u (aH.1 (d.wfB i l r) z L));let⟨X,Y,cs,Z⟩:=d.argb i b hb;let⟨D,h4⟩:=F i ⟨cs,Z⟩;exact⟨X,Y,D,h4⟩
def bB4(h:Le T σ a)(b:K a):cR5 T σ K:=⟨⟨a,h,b⟩⟩
end
section
abbrev ItQ:=Exit->Option Nat->St->Prop
abbrev ItC:=Option Nat->St->ItQ->Prop
def yieldOf(env:Nat->V)(o:Oper):Option (Nat×List Operand):=
 match o.op with
 | .call ⟨.value (.tmp t),⟨as⟩,_⟩=>match env t with| .lit (.func (.yield l) ⟨[]⟩ ⟨[]⟩)=>some (l,as)|_=>none
 |_=>none
structure dC9(items:List (List V))(l l':Nat)(k:Nat)(xs:List V)(A B:Prop):Prop where
 out:l'=l/\items[k]? =some xs/\bM xs/\A/\B
abbrev ItO:=Option Nat->(Nat->V)->(Nat->Option (List V))->(Nat->Option AE)->(Option Nat->St->Prop)->Prop
def cV6(T:Tab)(P:Program)(n:Nat)(items:List (List V))(yl:Nat)(ops:List Oper)(o:Oper)(ih:ItO):ItO:=λk env bx ar K=>
 match yieldOf env o with
 |some (yl',as)=>match o.guard,k,o.dst with
  |none,some k,some d=>cond (Nat.blt d n) (dC9 items yl yl' k (mapR (St.ev ⟨env,bx,ar⟩) as) (ih (some (k+1)) (upd env d (B true)) bx ar K) (ih none (upd env d (B false)) bx ar K)) False
  |_,_,_=>False
 |none=>bH0 T P .free n ops o (λenv bx ar _=>ih k env bx ar K) env bx ar (λ_=>True)
def cE1(T:Tab)(P:Program)(n:Nat)(items:List (List V))(yl:Nat)(ops l:List Oper):ItO:=
 List.rec (motive:=λ_=>ItO) (λk env bx ar K=>K k ⟨env,bx,ar⟩) (λo _ ih=>cV6 T P n items yl ops o ih) l
structure eF8(x y:ItC)(k:Option Nat)(σ:St)(Q:ItQ):Prop where
 out:x k σ λe k' σ'=>match e with
  | .normal=>y k' σ' Q
  |e=>Q e k' σ'
structure bX4(T:Tab)(x:ItC)(k:Option Nat)(σ:St)(Q:ItQ):Prop where
 out:∃(A:Type) (st:A->St) (kk:A->Option Nat) (inv:A->Prop) (m:A->Nat),(∃p,Le T σ (st p)/\inv p/\kk p=k)/\∀p,inv p->x (kk p) (st p) λe k' σ'=>match e with
  | .normal=>∃p',Le T σ' (st p')/\inv p'/\kk p'=k'/\m p'<m p
  |e=>Q e k' σ'
def aI3(T:Tab)(P:Program)(n:Nat)(items:List (List V))(yl:Nat)(c:Code):ItC:=
 Code.rec (motive:=λ_=>ItC)
  (λk σ Q=>Q .normal k σ)
  (λ_ ops draw k σ Q=>match σ with|⟨env,bx,ar⟩=>match draw with
   |true=>aC9 T env ops.toList (λhv=>aY0 T P (.drawn hv) n ops.toList ops.toList env bx ar (Q .normal k))
   |false=>cE1 T P n items yl ops.toList ops.toList k env bx ar (Q .normal))
  (λ_ _ iha ihb=>eF8 iha ihb)
  (λc _ _ iht ihe k σ Q=>match σ.ev c with
   | .lit (.bool b)=>branch b (iht k σ Q) (ihe k σ Q)
   |_=>False)
  (λid _ ih k σ Q=>ih k σ λe k' σ'=>match e with
   | .exit i=>cond (Nat.beq i id) (Q .normal k' σ') (Q (.exit i) k' σ')
   |e=>Q e k' σ')
  (λ_ ih=>bX4 T ih)
  (λ_ _ _ _ _ _ _ _ _=>False)
  (λid k σ Q=>Q (.exit id) k σ)
  (λ_ ih k σ Q=>ih k σ λe k' σ'=>match e with
   | .goto _=>False
   |e=>Q e k' σ')
  (λ_ k σ Q=>Q .normal k σ)
  (λ_ _ _ _=>False)
  (λk σ Q=>Q .ret k σ)
  (λ_ _ _ _=>False) c
def dZ2(n:Nat)(k:Option Nat):Prop:=match k with|some k=>k=n|none=>True
def itVC(T:Tab)(P:Program)(fn:Func)(caps:List V)(items:List (List V)):Prop:=
 match fn.body,fn.results.toList with
 |some c,[] =>∀l:Nat,aI3 T P fn.ntmps items l c (some 0) (uD (.lit (.func (.yield l) ⟨[]⟩ ⟨[]⟩)::caps)) λe k _=>match e with
  | .normal=>dZ2 items.length k
  | .ret=>dZ2 items.length k
  |_=>False
 |_,_=>False
variable{T:Tab}{P:Program}{Φ:Fr}{σ:St}{a:Act}{w w':World}{G G':Gh}{o:Oper}
def Inv.move(inv:Inv T Φ σ a w G)(g:w.heap.size<=w'.heap.size)(d:∀b,G.O b≠ .ext->w'.heap[b]? =w.heap[b]?)(m:w'.os=w.os)(q:w'.tape=w.tape)(r:w'.output=w.output):Inv T (Φ.at w' G) σ a w' G:=by
 have c:Inv T {(Φ.at w G)with given:=λb=>G.O b≠ .fz} σ a w G:=by
  have i:=inv.up;refine {nd:=i.nd,kp:=i.kp,sz:=i.sz,env:=i.env,wfE:=i.wfE,box:=i.box,wfB:=i.wfB,arr:=i.arr,wfA:=i.wfA,tag:=i.tag,mineB:=λb j h=> .inr (by show G.O b≠ .fz;rw[h];simp),mineA:=λb k h=> .inr (by show G.O b≠ .fz;rw[h];simp),fzm:=λb h=> .inl h,F0:=i.F0,frame:=λb _ _=>rfl,size:=i.size,os:=i.os,tape:=i.tape,output:=i.output,args:=i.args,lay:=⟨i.lay.1,λb d=>⟨(i.lay.2 b d).1,λh=>h d⟩⟩,argb:=i.argb}
 have f:=c.change (w':=w') (G':=G) rfl ⟨λ_ h=>h,λb h=>d b Fv⟩ (λ_ _=>rfl) (λ_ _ _=>rfl) (λ_ h=>h) (λ_ _ h=>h)
  (λi cs hi=> .inl ⟨hi,(c.box i cs hi).choose_spec.choose_spec.2.2,d _ (by rw[(c.box i cs hi).choose_spec.choose_spec.2.2];simp)⟩)
  (λk en l=> .inl ⟨l,λb e=>⟨e,d b (by rw[e];simp)⟩⟩)
  (λb h=>SS (c.tag b h) g) (λ_=> .inl rfl)
  (λb=>by
   by_cases h:G.O b= .fz;exact .inl (d b Fv)
   exact .inr (.inr h)) g m q r
 exact f.up
structure pU(T:Tab)(n:Nat)(w:World)(JX:Option Nat->World->Gh->Prop)(k:Option Nat)(σ:St)(a:Act)(W:World)(Φ:Fr)(G' Gi:Gh):Prop where
 nn:Φ.n=n
 ds:Φ.ds=[]
 kp:Φ.keep=λ_=>none
 jx:JX k Φ.w0 G'
 tag:∀b,G'.O b≠ .ext->b<Φ.w0.heap.size
 F0:∀b,Φ.F0 b->G'.O b= .fz\/(w.heap.size<=b/\G'.O b= .ext)
 given:∀b,Φ.given b->w.heap.size<=b/\G'.O b= .ext
 size:w.heap.size<=Φ.w0.heap.size
 inv:Inv T Φ σ a W Gi
section
variable{n:Nat}{JX:Option Nat->World->Gh->Prop}{k:Option Nat}{Gi:Gh}{w0 W:World}
def pU.own(h:pU T n w0 JX k σ a W Φ G' Gi)(m:Gi.O b≠ .ext):(Gi.O b= .fz/\G'.O b= .fz)\/(w0.heap.size<=b/\b<W.heap.size/\G'.O b= .ext):=by
 have c:Φ.mine b->w0.heap.size<=b/\G'.O b= .ext:=λc=>by
  rcases c with c|c;refine⟨Rz h.size c,?_⟩;cases d:G'.O b with
  |ext=>rfl
  |_=>have:=h.tag b (by rw[d];simp);omega
  exact h.given b c
 have e:=h.inv.tag b m;cases d:Gi.O b with
 |ext=>exact absurd d m
 |bx i=>
  let⟨j,l⟩:=c (h.inv.mineB b i d);simp_all
 |ar i=>
  let⟨j,l⟩:=c (h.inv.mineA b i d);simp_all
 |fz=>
  rcases h.inv.fzm b d with g|g;rcases h.F0 b g with f|f;exact .inl ⟨rfl,f⟩;exact .inr ⟨f.1,e,f.2⟩;let⟨j,l⟩:=c g;exact .inr ⟨j,e,l⟩
def Jcl(w:World)(JX:Option Nat->World->Gh->Prop):Prop:=∀k W W' G',JX k W G'->W.heap.size<=W'.heap.size->(∀b,b<W.heap.size->(G'.O b≠ .ext\/b<w.heap.size)->W'.heap[b]? =W.heap[b]?)->W'.os=W.os->W'.tape=W.tape->W'.output=W.output->JX k W' G'
def Jfz(w:World)(JX:Option Nat->World->Gh->Prop):Prop:=∀k W G' G'',JX (some k) W G'->G''.β=G'.β->G''.av=G'.av->(∀b,G''.O b=G'.O b\/(w.heap.size<=b/\b<W.heap.size/\G'.O b= .ext/\G''.O b= .fz))->JX (some k) W G''
def dA0(P:Program)(w:World)(items:List (List V))(l:Nat)(JX:Option Nat->World->Gh->Prop):Prop:=∀k W G' vs it,JX (some k) W G'->items[k]? =some it->vs.size=it.length->(∀(j:Nat) v y,vs[j]? =some v->it[j]? =some y->y.pure/\Rv W G' v y)->
 YieldAt (FW none) 0 P l vs W λe W'=>(e= .returned (.bool true)/\∃G2,JX (some (k+1)) W' G2/\xN w W W' G' G2)\/(e= .returned (.bool false)/\∃G2,JX none W' G2/\xN w W W' G' G2)
def pU.now(h:pU T n w0 JX k σ a W Φ G' Gi)(d:Jcl w0 JX):JX k W G':=
 d k _ _ _ h.jx h.inv.size (λb e c=>h.inv.frame b e (λf=>by
  let⟨i,g⟩:=h.given b f;rcases c with c|c;exact c g
  omega)) h.inv.os h.inv.tape h.inv.output
def pU.next(h:pU T n w0 JX k σ a W Φ G' Gi)(inv:Inv T Φ b d c Gi'):pU T n w0 JX k b d c Φ G' Gi':={h with inv:=inv}
def cS1{t l:Nat}(e:o.op= .call ⟨.value (.tmp t),⟨as⟩,h⟩)(f:a.tmps.getD t undef= .func (.yield l) #[] #[])
 (g:(Instr.yield l (as.map a.eval).toArray).run P w= .ok (.round l d tmps b body) w):(execOp a.eval o).run P w= .ok (.round l d tmps b body) w:=by
 have c:a.eval (.tmp t)= .func (.yield l) #[] #[] :=f;simp[execOp,e,resolve,c,Deferred.ofValue,invoke,g]
def eH0(hJ:Jcl w0 JX)(hF:Jfz w0 JX){r:List (List V)}{l:Nat}(hY:dA0 P w0 r l JX){D d t:Nat}{as:List Operand}{ts:Array TypeId}(Y:o.op= .call ⟨.value (.tmp t),⟨as⟩,ts⟩)(hd:o.dst=some d)(R:d<n)(hg:σ.env t= .lit (.func (.yield l) ⟨[]⟩ ⟨[]⟩))
 (h:pU T n w0 JX (some D) σ a W Φ G' Gi)(S:r[D]? =some (as.map σ.ev))(hp:bM (as.map σ.ev)){next:Act->World->Prop}{Q:Exit->Act->World->Prop}
 (hn:∀(b:Bool) X m Φ' g,pU T n w0 JX (match b with|true=>some (D+1)|false=>none) (σ.set d (B b)) X m Φ' g Gi->next X m):o.wpIn (FW none) 0 P a W next Q:=by
 have U:a.tmps.getD t undef= .func (.yield l) #[] #[] :=by
  have:=h.inv.env t;rw[hg]at this;exact this.bH
 let g:Gh:={G' with O:=λb=>match G'.O b,Gi.O b with| .ext, .fz=> .fz|x,_=>x}
 have M:∀b,g.O b=G'.O b\/(w0.heap.size<=b/\b<W.heap.size/\G'.O b= .ext/\g.O b= .fz):=λb=>by
  cases L:G'.O b with
  |ext=>
   cases f:Gi.O b with
   |fz=>
    rcases h.own (b:=b) (by rw[f];simp)with q|q;rw[q.2]at L;cases L;grind
   |_=>exact .inl (by simp[g,L,f])
  |_=>exact .inl (by simp[g,L])
 have z:∀b,Gi.O b= .fz->g.O b= .fz:=λb hb=>by
  rcases h.own (b:=b) AV with q|q;simp[g,q.2];simp[g,q.2.2,hb]
 have hj:=hF D W G' g (h.now hJ) rfl rfl M
 obtain⟨fn,tmps,Z,body,I,hR⟩:=hY D W g (as.map a.eval).toArray _ hj S Ad (λj v y hv I=>by
  have F:j<as.length:=by
   have:=(QW.1 I).1;simpa using this
  have e1:v=a.eval as[j] :=by simpa [F]using hv.symm
  have e2:y=σ.ev as[j] :=by simpa [F]using I.symm
  have A:y.pure:=aH.1 hp y (QZ I);refine⟨A,?_⟩;rw[e1];rw[e2]at A⊢;exact(h.inv.ev as[j]).1.aW ⟨z,λ_ _=>rfl⟩ A)
 refine⟨λ_ _=>trivial,?_⟩;rw[Oper.semAt_eq _ _ _ (λc=>by rw[Y];exact λh=>by cases h),cS1 Y U I,Oper.uponIn_round];refine⟨λhh=>ES,hR.mono ?_⟩
 have E:∀(b:Bool) (m:World) (s:Gh),JX (match b with|true=>some (D+1)|false=>none) m s->xN w0 W m g s->next (a.put o.dst (.bool b)) m:=by
  intro b m s H i
  have C:∀b,Gi.O b≠ .ext->m.heap[b]? =W.heap[b]? :=λb hb=>by
   by_cases u:Gi.O b= .fz;exact i.keep.heap b (z b u);rcases h.own hb with q|q;exact absurd q.1 u;refine(i.own b q.1 q.2.1 ?_).1;cases f:Gi.O b with
   |fz=>exact absurd f u
   |_=>simp[g,q.2.2,f]
  have J:=h.inv.move i.size C i.os i.tape i.output;have K:=J.bA3 (d:=d) (v':= .bool b) (v:=B b) ⟨by show d<Φ.n;rw[h.nn];exact R,by show Φ.keep d=none;rw[h.kp]⟩ (.lit _ rfl) (by simp only[B,V.ok]);rw[hd];refine hn b _ m (Φ.at m Gi) s ⟨h.nn,h.ds,h.kp,H,i.tag,λb hb=>?_,λb hb=>?_,Rz h.size (Rz h.inv.size i.size),K⟩;exact .inl (i.keep.fz b (z b hb));rcases h.own hb.2 with q|q;exact absurd q.1 hb.1;refine⟨q.1,(i.own b q.1 q.2.1 ?_).2⟩;have N:Gi.O b≠ .fz:=hb.1;cases f:Gi.O b with
  |fz=>exact absurd f N
  |_=>simp[g,q.2.2,f]
 rintro e m (⟨rfl,s,H,i⟩|⟨rfl,s,H,i⟩)
 ·exact E true m s H i
 ·exact E false m s H i
def eE2(T:Tab)(n:Nat)(w0:World)(JX:Option Nat->World->Gh->Prop)(Q:ItQ)(e:Exit)(a:Act)(w:World):Prop:=∃k σ Φ G' Gi,Q e k σ/\pU T n w0 JX k σ a w Φ G' Gi
def eS2(R:bP T P)(N:Jcl w0 JX)(M:Jfz w0 JX)(S:dA0 P w0 c l JX)(L:i.toList=ops)(O:∀k e j w' Φ G' Gi,K k e->pU T n w0 JX k e j w' Φ G' Gi->Q .normal j w'):
 ∀ r  k  σ  a  W  Φ  G' Gi,pU T n w0 JX k σ a W Φ G' Gi->cE1 T P n c l ops r k σ.env σ.bx σ.ar K->wpListIn (FW none) 0 P i Q r a W:=by
 intro r;induction r with
 |nil=>intro k σ a W Φ G' Gi h m;exact O k σ a W Φ G' Gi m h
 |cons o r x=>
  intro k σ a W Φ G' Gi h m;have f:cV6 T P n c l ops o (cE1 T P n c l ops r) k σ.env σ.bx σ.ar K:=m;unfold cV6 at f;split at f;rename_i aa as s;split at f;rename_i kk d hg U;let⟨y,z⟩:=aT f;let⟨Y,H,I,Z,q4⟩:=z.out;subst Y;rw[dU]at H I;unfold yieldOf at s;split at s;rename_i t J ts X;split at s;rename_i hv;cases s;unfold wpListIn;rw[QU CX];refine eH0 N M S X U (blt y) hv h H I ?_;intro b j E v q F;cases b with
  |true=>exact x _ (σ.set d (B true)) j E v q Gi F Z
  |false=>exact x _ (σ.set d (B false)) j E v q Gi F q4
  cases s;cases s;exact f.elim;have C:=aX6 (σ:=σ) f;have A:∀d,o.dst=some d->Φ.keep d=none:=λd _=>by rw[h.kp]
  have u:Step T P .free Φ.n ops o σ λe=>cE1 T P n c l ops r k e.env e.bx e.ar K:=by rw[h.nn];exact C
  have:=bZ3 R h.inv L A u (Q:=Q) none;unfold wpListIn;split;rename_i D;rw[QU D]at this;exact Oper.wpIn_mono (λj w' ⟨e,q,m,g⟩=>x k e j w' Φ G' q (h.next g) m) this;rename_i D;rw[Q9 D]at this;let⟨q,e,m,g⟩:=this;exact⟨λ_ _=>trivial,x k e _ W Φ G' q (h.next g) m⟩
def eQ3(hT:bP T P)(hm:P.follows .mixedOrders=true)(hJ:Jcl w0 JX)(hF:Jfz w0 JX)(hY:dA0 P w0 g l JX) c:∀ k  σ  a  W  Φ  G' Gi  Q,pU T n w0 JX k σ a W Φ G' Gi->aI3 T P n g l c k σ Q->c.wpIn (FW none) 0 P (eE2 T n w0 JX Q) a W:=by
 induction c with
 |skip=>intro k σ a W Φ G' Gi Q h r;exact wpIn_skip ⟨k,σ,Φ,G',Gi,r,h⟩
 |region id ops U=>
  intro k σ a W Φ G' Gi Q h r;cases U with
  |false=>
   have z:cE1 T P n g l ops.toList ops.toList k σ.env σ.bx σ.ar (Q .normal):=by cases σ;exact r
   exact wpIn_region_list (eS2 hT hJ hF hY rfl (λk j K w' Φ G' Gi hk hi=>⟨k,j,Φ,G',Gi,hk,hi⟩) ops.toList k σ a W Φ G' Gi h z)
  |true=>
   have z:aC9 T σ.env ops.toList (λhv=>aY0 T P (.drawn hv) n ops.toList ops.toList σ.env σ.bx σ.ar (Q .normal k)):=by cases σ;exact r
   replace z:=z.out;let⟨cl,hv,h0,h1,h2⟩:=z;have hr:=aS6 ops.toList σ h2;rw[<-h.nn]at hr;exact bC4 hT none hm rfl (λo _ d _=>by rw[h.kp]) h1 (dC3 h.inv.wfE h0) (λj K w' v hk Z=>⟨k,j,Φ,G',v,hk,h.next Z⟩) id h.inv hr
 |seq x y I J=>
  intro k σ a W Φ G' Gi Q h r;have z:=r;refine wpIn_seq (Ug (I k σ a W Φ G' Gi _ h z.out) ?_);rintro e K w' ⟨D,j,u,v,E,t,hi⟩;cases e with
  |normal=>exact J D j K w' u v E Q hi t
  |_=>exact⟨D,j,u,v,E,t,hi⟩
 |cond c x y I J=>
  intro k σ a W Φ G' Gi Q h r
  have z:(match σ.ev c with
   | .lit (.bool b)=>branch b (aI3 T P n g l x k σ Q) (aI3 T P n g l y k σ Q)
   |_=>False):=r
  have he:=(h.inv.ev c).1;split at z;rename_i b C;rw[C]at he;cases b with
  |true=>exact wpIn_cond_true he.bH (I k σ a W Φ G' Gi Q h z)
  |false=>exact wpIn_cond_false he.bH (J k σ a W Φ G' Gi Q h z)
  exact z.elim
 |block id c Y=>
  intro k σ a W Φ G' Gi Q h r;refine wpIn_block (Ug (Y k σ a W Φ G' Gi _ h r) ?_);rintro e K w' ⟨D,j,u,v,E,t,hi⟩;cases e with
  |exit i=>
   have F:cond (Nat.beq i id) (Q .normal D j) (Q (.exit i) D j):=t;show Exit.inBlock id (eE2 T n w0 JX Q) (.exit i) K w';by_cases B:i=id;subst B;have C:=Nat.beq_refl i;rw[C]at F;simp[Exit.inBlock,Uy];exact⟨D,j,u,v,E,F,hi⟩;have C:Nat.beq i id=false:=by rw[<-Ue,TJ];exact B
   rw[C]at F;simp[Exit.inBlock,Q9 B];exact⟨D,j,u,v,E,F,hi⟩
  |_=>exact⟨D,j,u,v,E,t,hi⟩
 |loop c Y=>
  intro k σ a W Φ G' Gi Q h r;have z:=r;let⟨A,st,kk,inv,m,⟨p0,X,ab,ac⟩,H⟩:=z.out
  have M:∀{k}{R S}{a}{W}{Φ}{G' Gi},Le T R S->pU T n w0 JX k R a W Φ G' Gi->∃Φ Gi,pU T n w0 JX k S a W Φ G' Gi:=by
   intro k R S a W Φ G' Gi N h;let⟨v,aa⟩:=N.out h.inv.up;have L:=λb=>h.own (b:=b);refine⟨Φ.at W Gi,v,?_⟩
   exact⟨h.nn,h.ds,h.kp,h.now hJ,λb C=>SS (h.tag b C) h.inv.size,λb C=>by
    rcases L b (by rw[show Gi.O b= .fz from C];simp)with q|q;exact .inl q.2;exact .inr ⟨q.1,q.2.2⟩,λb C=>by
    rcases L b C.2 with q|q;exact absurd q.1 C.1
    exact⟨q.1,q.2.2⟩,Rz h.size h.inv.size,aa⟩
  let⟨ag,G0,h0⟩:=M X h;subst ac;refine wpIn_loop_ghost (λn' a w=>∃p Φ G' Gi,m p=n'/\inv p/\pU T n w0 JX (kk p) (st p) a w Φ G' Gi) (m p0) ⟨p0,ag,G',G0,rfl,ab,h0⟩ ?_;rintro n' K w' ⟨p,ah,G1,v,rfl,hi,h1⟩;refine Ug (Y (kk p) (st p) K w' ah G1 v _ h1 (H p hi)) ?_;rintro e a2 w2 ⟨D,j,u,E,G4,t,B⟩;cases e with
  |normal=>
   let⟨p',N,af,ad,ae⟩:=t;subst ad;let⟨ai,G5,h5⟩:=M N B;exact⟨m p',ae,p',ai,E,G5,rfl,af,h5⟩
  |_=>exact⟨D,j,u,E,G4,t,B⟩
 |rangeFunc f ps x y I J=>intro k σ a W Φ G' Gi Q h r;exact(r:False).elim
 |exit id=>intro k σ a W Φ G' Gi Q h r;exact wpIn_exit ⟨k,σ,Φ,G',Gi,r,h⟩
 |scope c Y=>
  intro k σ a W Φ G' Gi Q h r;refine bE2 (Ug (Y k σ a W Φ G' Gi _ h r) ?_);rintro e K w' ⟨D,j,u,v,E,t,hi⟩;cases e with
  |goto l=>exact t.elim
  |_=>exact⟨D,j,u,v,E,t,hi⟩
 |label l=>intro k σ a W Φ G' Gi Q h r;exact wpIn_label ⟨k,σ,Φ,G',Gi,r,h⟩
 |goto l=>intro k σ a W Φ G' Gi Q h r;exact(r:False).elim
 |ret=>intro k σ a W Φ G' Gi Q h r;exact wpIn_ret ⟨k,σ,Φ,G',Gi,r,h⟩
 |refuse s=>intro k σ a W Φ G' Gi Q h r;exact(r:False).elim
end
def dZ5(hT:bP T P)(hm:P.follows .mixedOrders=true)(hf:P.funcs[f]? =some q)(hc:callable P f=true)(hn:d.length+1<=q.ntmps)(hl:allR (λy=> !linear y) d=true)(h:itVC T P q d g):aB0 T P f d g:=by
 refine⟨hc,λw G m l Q U B N J X hJ hX aa hY h0=>?_⟩;unfold itVC at h;split at h;rename_i c r ad;have h:=h l;let JX:Option Nat->World->Gh->Prop:=λk W G=>match k with|some k=>J k W G|none=>X W G
 have K:Jcl w JX:=λk W W' G'=>by
  grind
 let Gi:Gh:={G with O:=λb=>match G.O b with| .fz=> .fz|_=> .ext}
 have C:∀b,Gi.O b= .fz↔G.O b= .fz:=λb=>by
  grind
 have ab:Keep w w G Gi:=⟨λb r=>(C b).2 r,λ_ _=>rfl⟩;have ac:=T.lay_mono (λb r=>⟨(C b).2 r,rfl⟩) N;let Φ:Fr:=⟨w,λ_=>False,λb=>Gi.O b= .fz,q.ntmps,λ_=>none,λ_=>none,[],λ_=>none⟩;have S:(#[Value.func (.yield l) #[] #[]] ++m).size=d.length+1:=by simp[Q];omega
 have R:∀(j:Nat) y,d[j]? =some y->linear y=false:=λj y hy=>by
  grind [dY,QZ]
 have M:∀ s  y,(V.lit (Value.func (.yield l) ⟨[]⟩ ⟨[]⟩)::d)[s]? =some y->linear y=false/\y.pure/\Rv w Gi ((#[Value.func (.yield l) #[] #[]] ++m).getD s undef) y:=by
  intro s y hy;cases s with
  |zero=>
   simp at hy;subst hy;refine⟨rfl,by simp[V.pure,V.ok],?_⟩
   have e:(#[Value.func (.yield l) #[] #[]] ++m).getD 0 undef=Value.func (.yield l) #[] #[] :=by
    simp_all
   rw[e];exact .lit _ rfl
  |succ s=>
   have D:=Dj;have u:s<m.size:=by rw[Q];exact(QW.1 D).1
   let⟨q1,q2⟩:=B s m[s] y (by simp[u]) D;refine⟨R s y D,q1,?_⟩
   have e:(#[Value.func (.yield l) #[] #[]] ++m).getD (s+1) undef=m[s] :=by
    rw[TU,Array.getElem?_append_right Ad];simp[u]
   rw[e];exact q2.aW ab q1
 have x:∀s,(uD (V.lit (Value.func (.yield l) ⟨[]⟩ ⟨[]⟩)::d)).env s=match(V.lit (Value.func (.yield l) ⟨[]⟩ ⟨[]⟩)::d)[s]? with|some y=>y|none=> .tup [] :=λs=>by
  have Z:(uD (V.lit (Value.func (.yield l) ⟨[]⟩ ⟨[]⟩)::d)).env=pF (V.lit (Value.func (.yield l) ⟨[]⟩ ⟨[]⟩)::d) 0:=rfl;rw[Z,lY];grind
 have I:∀k,(uD (V.lit (Value.func (.yield l) ⟨[]⟩ ⟨[]⟩)::d)).ar k=none:=λk=>by
  have Z:(uD (V.lit (Value.func (.yield l) ⟨[]⟩ ⟨[]⟩)::d)).ar=jK (V.lit (Value.func (.yield l) ⟨[]⟩ ⟨[]⟩)::d) 0:=rfl;rw[Z,gY];simp[RY,Uy,Nat.sub_zero];grind [linear]
 have inv:Inv T Φ (uD (V.lit (Value.func (.yield l) ⟨[]⟩ ⟨[]⟩)::d)) {tmps:=(#[Value.func (.yield l) #[] #[]] ++m)++Array.replicate (q.ntmps- (#[Value.func (.yield l) #[] #[]] ++m).size) undef,defers:=[]} w Gi:=by
  constructor;rfl;intro s v u;cases u;grind;intro s;rw[x s];by_cases u:s< (#[Value.func (.yield l) #[] #[]] ++m).size
  have hv:((#[Value.func (.yield l) #[] #[]] ++m)++Array.replicate (q.ntmps- (#[Value.func (.yield l) #[] #[]] ++m).size) undef).getD s undef=(#[Value.func (.yield l) #[] #[]] ++m).getD s undef:=by
   rw[TU,TU,Array.getElem?_append_left u]
  have hy:(V.lit (Value.func (.yield l) ⟨[]⟩ ⟨[]⟩)::d)[s]? =some (V.lit (Value.func (.yield l) ⟨[]⟩ ⟨[]⟩)::d)[s] :=QX (by rw[S]at u;simpa using u);show Rv w Gi (((#[Value.func (.yield l) #[] #[]] ++m)++Array.replicate (q.ntmps- (#[Value.func (.yield l) #[] #[]] ++m).size) undef).getD s undef) _;rw[hv,hy];exact(M s _ hy).2.2;have hy:(V.lit (Value.func (.yield l) ⟨[]⟩ ⟨[]⟩)::d)[s]? =none:=TG (by rw[S]at u;simp;omega);rw[hy]
  have hv:((#[Value.func (.yield l) #[] #[]] ++m)++Array.replicate (q.ntmps- (#[Value.func (.yield l) #[] #[]] ++m).size) undef).getD s undef=undef:=by
   exact Qn
  show Rv w Gi (((#[Value.func (.yield l) #[] #[]] ++m)++Array.replicate (q.ntmps- (#[Value.func (.yield l) #[] #[]] ++m).size) undef).getD s undef) _;rw[hv];exact xK w Gi;intro s;rw[x s];cases hy:(V.lit (Value.func (.yield l) ⟨[]⟩ ⟨[]⟩)::d)[s]? with
  |none=>simp[V.ok,V.okL]
  |some y=>exact V.pure.ok (M s y hy).2.1 _ _
  intro i cs' hi;exact QR;intro i cs' hi;exact QR;intro k en t;rw[I k]at t;cases t;intro k en t;rw[I k]at t;cases t;grind;grind;grind;intro b r;exact .inl r;intro b r;exact r;intro b _ _;rfl;exact Rf _;rfl;rfl;rfl;intro j v h;cases h;grind;intro i b h;cases h
 have hi:pU T q.ntmps w JX (some 0) (uD (V.lit (Value.func (.yield l) ⟨[]⟩ ⟨[]⟩)::d)) {tmps:=(#[Value.func (.yield l) #[] #[]] ++m)++Array.replicate (q.ntmps- (#[Value.func (.yield l) #[] #[]] ++m).size) undef,defers:=[]} w Φ G Gi:=
  ⟨rfl,rfl,rfl,h0,U,λb r=> .inl ((C b).1 r),λb r=>r.elim,Rf _,inv⟩
 refine callsIn_of_wp (F:=FW none) hf r trivial (Ug (eQ3 hT hm K aa hY c _ _ _ w Φ G Gi _ hi h) ?_)
 have H:∀ k  σ  A  w'  Φ  G' Gi ,dZ2 g.length k->pU T q.ntmps w JX k σ A w' Φ G' Gi->A.defers=[]/\∃v,(results q A.tmps).run P w'= .ok v w'/\((∃v',Ending.returned v= .returned v')/\((∃G',J g.length w' G')\/∃G',X w' G')):=by
  intro k σ A w' Φ G' Gi hk hi;have z:=hi.now K;refine⟨by rw[hi.inv.nd,hi.ds], .tuple #[],?_,⟨_,rfl⟩,?_⟩
  have hr:q.results= #[] :=by
   simp_all
  simp[results,hr];cases k with
  |none=>exact .inr ⟨G',z⟩
  |some k=>
   have:k=g.length:=hk;subst this;exact .inl ⟨G',z⟩
 rintro e A w' ⟨k,σ,Y,G',Gi',E,L⟩;cases e with
 |normal=>exact H k σ A w' Y G' Gi' E L
 |ret=>exact H k σ A w' Y G' Gi' E L
 |exit id=>exact(E:False).elim
 |goto l=>exact(E:False).elim
 |panic c=>exact(E:False).elim
 |outgrown=>exact(E:False).elim
 exact h.elim
def cD0{x y:ItC}{k:Option Nat}{Q:ItQ}(h:x k σ λe c b=>match e with
 | .normal=>y c b Q
 |e=>Q e c b):eF8 x y k σ Q:=⟨h⟩
def eD4{x:ItC}{k:Option Nat}{Q:ItQ}{A:Type}(st:A->St)(c:A->Option Nat)(inv:A->Prop)(m:A->Nat)(d:A)(g:Le T σ (st d))(i:inv d)(j:c d=k)(h:∀p,inv p->x (c p) (st p) λe f b=>match e with
 | .normal=>∃p',Le T b (st p')/\inv p'/\c p'=f/\m p'<m p
 |e=>Q e f b):bX4 T x k σ Q:=⟨A,st,c,inv,m,⟨d,g,i,j⟩,h⟩
def dE2{A B}(c:b[k]? =some xs)(d:bM xs)(e:A)(f:B):dC9 b l l k xs A B:=⟨rfl,c,d,e,f⟩
end
end Go.Ab
namespace Go.Ab
open Go.ChangeShapes Go.WideShapes Go.ChangeAt Go.RowKit
def Dec(P:Program)(w:World)(G:Gh)(t:TypeId)(Q:List V->Prop):Prop:=
 ∀(H:Type) (enc:TypeId×Value->H) (fuel:Nat) (cs:List Value) (x:DataW H×List MemPlace),DataW.trod enc P w 0 (λ_=>true) true fuel t cs=some x->
  ∃xs,Q xs/\RvL w G cs xs/\bM xs/\xs.length=P.cellsOf t/\∀y∈xs,y.atom=true
def QInt(k:IntKind)(lo hi:Int):List V->Prop:=λxs=>∃n:Int,xs=[.lit (.int k n)]/\lo<=n/\n<=hi
def zI(agg:Bool)(Q:List V->Prop):List V->Prop:=λxs=>∃l:List V,xs=[.sl l]/\l.length<=maxLen/\∀x∈l,Q x.cells/\(agg=true->∃ys,x= .agg ys)/\(agg=false->∀ys,x≠ .agg ys)
section
variable{P:Program}{w:World}{G:Gh}{t:TypeId}
def RvL.lit1(h:u.oneCell'=true):RvL w G [u] [.lit u] :=
 ⟨rfl,λv hv=>by cases Ri.1 hv;exact h,λi v x hv a=>by
  cases i with
  |zero=>simp at hv a;subst hv a;exact .lit _ h
  |succ i=>simp at hv⟩
def dI6(d:P.underlying t=some (.int k))(b:P.cellsOf t=1)(c:∀n,(Lit.int k n).wf=true->lo<=n/\n<=hi):Dec P w G t (QInt k lo hi):=by
 intro H enc a cs x h;obtain⟨n,rfl,_,e⟩:=DataW.trod_int d h;refine⟨_,⟨n,rfl,c n e⟩,RvL.lit1 rfl,?_,by rw[b];rfl,λy hy=>Dq⟩;simp[bM,V.okL,V.ok,and_self]
def QStr:List V->Prop:=λxs=>∃s:ByteArray,xs=[.lit (.string s)]/\s.size<=maxLen
def eO8(d:P.underlying t=some .string)(b:P.cellsOf t=1):Dec P w G t QStr:=by
 intro H enc a cs x h;obtain⟨n,rfl,_,c⟩:=DataW.trod_string d h;refine⟨_,⟨n,rfl,c⟩,RvL.lit1 rfl,?_,by rw[b];rfl,λy hy=>Dq⟩;simp[bM,V.okL,V.ok,and_self]
def QAll:List (List V->Prop)->List V->Prop
 | [],xs=>xs=[]
 |Q::r,xs=>∃a b,xs=a++b/\Q a/\QAll r b
def Parts(P:Program)(w:World)(G:Gh):Nat->List (Nat×TypeId)->List (List V->Prop)->Nat->Prop
 |off,[],[],e=>off=e
 |off,f::r,Q::s,e=>f.1=off/\Dec P w G f.2 Q/\Parts P w G (off+P.cellsOf f.2) r s e
 |_,_,_,_=>False
def mM(h:off=e):Parts P w G off [] [] e:=h
def aY(a:f.1=off)(b:Dec P w G f.2 Q)(c:Parts P w G (off+P.cellsOf f.2) r s e):Parts P w G off (f::r) (Q::s) e:=⟨a,b,c⟩
def cS3(c:V.okL p q a)(d:V.okL p q b):V.okL p q (a++b):=by
 rw[aH]at*;intro x e;rcases Rh.1 e with h|h;exact c x h;exact d x h
def bV7{enc:TypeId×Value->H}{cs:List Value}:∀ c  a  off e,Parts P w G off c a e->
 (∀f∈c,∃y,DataW.trod enc P w 0 (λ_=>true) true n f.2 ((cs.drop f.1).take (P.cellsOf f.2))=some y)->cs.length=e->
 ∃xs,QAll a xs/\RvL w G (cs.drop off) xs/\bM xs/\off+xs.length=e/\∀y∈xs,y.atom=true:=by
 intro c;induction c with
 |nil=>
  intro a off e b _ j;cases a with
  |nil=>
   have:off=e:=b;refine⟨[],rfl,?_,GH,by simpa using this,Ad⟩;rw[UI Aa];exact⟨rfl,Ad,Ad⟩
  |cons=>exact b.elim
 |cons f r u=>
  intro a off e b i j;cases a with
  |nil=>exact b.elim
  |cons Q s=>
   let⟨l,m,o⟩:=b;let⟨y,d⟩:=i f Ad;let⟨xs,B,k,C,F,D⟩:=m H enc n _ y d;let⟨ys,v,x,z,E,A⟩:=u s _ e o (λg q=>i g (by simp[q])) j;refine⟨xs++ys,⟨xs,ys,rfl,B,v⟩,?_,cS3 C z,AY,?_⟩
   have:cs.drop off=(cs.drop off).take (P.cellsOf f.2)++cs.drop (off+P.cellsOf f.2):=by
    rw[<-List.drop_drop,SG]
   rw[this];rw[l]at k;exact k.append x;intro y d;rcases Rh.1 d with h|h;exact D y h;exact A y h
def lZ(q:P.underlying t=some (.struct a))(o:Parts P w G 0 (a.toList.map λf=>(f.offset,f.type)) c (P.cellsOf t)):Dec P w G t (QAll c):=by
 intro H enc d cs x h;let⟨xs,n,_,_,m,e,j⟩:=DataW.trod_struct q h
 let⟨ys,k1,k2,k3,k4,k5⟩:=bV7 (enc:=enc) (n:=n) _ _ 0 _ o (λf b=>by
  obtain⟨g,k,rfl⟩:=Rn.1 b;let⟨i,hi⟩:=RF k
  have l:i<a.size:=by
   have:=(QW.1 hi).1;simpa using this
  have:=j i g Ih;rw[QX Aa]at this;exact⟨_,this⟩) m
 exact QE
def dN6(o:P.underlying t=some (.array m e))(l:Parts P w G 0 ((List.range m).map λi=>(i*P.cellsOf e,e)) b (P.cellsOf t)):Dec P w G t (QAll b):=by
 intro H enc c cs x h;let⟨xs,n,_,_,k,d,g⟩:=DataW.trod_array o h
 let⟨ys,k1,k2,k3,k4,k5⟩:=bV7 (enc:=enc) (n:=n) _ _ 0 _ l (λf a=>by
  obtain⟨i,j,rfl⟩:=Rn.1 a;have hi:=Tf.1 j;have:=g i hi
  rw[QX Aa]at this;exact⟨_,this⟩) k
 exact QE
def pV{e:TypeId}{Q:List V->Prop}(agg:Bool)(ht:P.underlying t=some (.slice e))(hc:P.cellsOf t=1)(he:Dec P w G e Q)(hz:0<P.cellsOf e)(B:agg=false->P.cellsOf e=1)(hG:∀b,b<w.heap.size->G.O b= .fz):Dec P w G t (zI agg Q):=by
 intro H enc aa cs x h;rcases Deep.open_slice ht h with⟨rfl,rfl⟩|⟨a,f,cap,m,n,D,Pl,rfl,hb,hl,hm,T,rfl,s⟩;refine⟨_,⟨[],rfl,Ad,Ad⟩,⟨rfl,λv hv=>by cases Ri.1 hv;rfl,λi v x hv s=>?_⟩,by simp only[bM,V.okL,V.ok,and_self],by rw[hc];rfl,λy hy=>Dq⟩;cases i with
 |zero=>simp at hv s;subst hv s;exact .slN
 |succ i=>simp at hv
 simp only[Uy]at T;subst T
 have A:∀i,i<f->∃z xs,w.cells? 0 (a.add (i*P.cellsOf e)) (P.cellsOf e)=some z/\Q xs/\RvL w G z xs/\bM xs/\xs.length=P.cellsOf e/\∀y∈xs,y.atom=true:=by
  intro i hi;obtain⟨z,I,W⟩:=s i Aa;obtain⟨xs,q⟩:=he H enc n z _ W;exact⟨z,xs,I,q⟩
 let X:Nat->List V:=λi=>if h:i<f then(A i h).choose_spec.choose else []
 let C:Nat->List Value:=λi=>if h:i<f then(A i h).choose else []
 have K:∀i,i<f->w.cells? 0 (a.add (i*P.cellsOf e)) (P.cellsOf e)=some (C i)/\Q (X i)/\RvL w G (C i) (X i)/\bM (X i)/\(X i).length=P.cellsOf e/\∀y∈X i,y.atom=true:=by
  intro i hi;simp only[X,C,dif_pos hi];exact(A i hi).choose_spec.choose_spec
 let E:Nat->V:=λi=>cond agg (.agg (X i)) ((X i).headD .bot)
 have L:∀i,i<f->(E i).cells=X i:=by
  intro i hi;obtain⟨_,_,_,_,J,h6⟩:=K i hi;cases d:agg with
  |true=>simp only[E,d,TD,V.cells]
  |false=>
   have I:=B d;rw[I]at J;match g:X i,J with
   | [y],_=>
     simp only[E,d,Tt,g,Vb];have:=h6 y (by rw[g];simp);cases y<;>first|rfl|(simp[V.atom]at this)
 let l:List V:=(List.range f).map E;have r:l.length=f:=by simp[l]
 have F:∀x∈l,x.cells.length=P.cellsOf e:=by
  intro x s;obtain⟨i,hi,rfl⟩:=Rn.1 s;rw[L i (Tf.1 hi)];exact(K i (Tf.1 hi)).2.2.2.2.1
 have R:∀i,i<f->l[i]? =some (E i):=λi hi=>by simp[l,hi]
 have M:bM l:=by
  refine aH.2 ?_;intro x s;obtain⟨i,hi,rfl⟩:=Rn.1 s;have o:=Tf.1 hi;have hp:=(K i o).2.2.2.1;cases d:agg with
  |true=>simp only[E,d,TD,V.ok];exact hp
  |false=>
   have J:=(K i o).2.2.2.2.1;rw[B d]at J;match g:X i,J with
   | [y],_=>
     simp only[E,d,Tt,g,Vb];rw[g]at hp;exact aH.1 hp y Ad
 have u:∀(j:Nat) y,(l.flatMap V.cells)[j]? =some y->∃c,w.cell? (a.add j)=some c/\c.oneCell'=true/\Rv w G c y:=by
  intro j y hy
  have S:j<f*P.cellsOf e:=by
   have:=(QW.1 hy).1;rw[sH F,r]at this;exact this
  have hi:j/P.cellsOf e<f:=Nat.div_lt_of_lt_mul (by rw[Nat.mul_comm];exact S);have hr:j% P.cellsOf e<P.cellsOf e:=SC _ hz;have hj:j/P.cellsOf e*P.cellsOf e+j% P.cellsOf e=j:=by rw[Nat.mul_comm];exact Nat.div_add_mod j _
  have N:=flat_get F (R _ hi) (j% P.cellsOf e) hr;rw[hj,hy,L _ hi]at N;obtain⟨g1,g2,g3,g4,g5,g6⟩:=K _ hi;obtain⟨_,c1,c2⟩:=World.cells?_some g1;have k:=c2 _ hr;rw[Deep.add_add,hj]at k;have hlt:j% P.cellsOf e< (C (j/P.cellsOf e)).length:=by rw[c1];exact hr
  rw[QX hlt]at k;refine⟨_,k,g3.one _ (TL hlt),g3.rel (j% P.cellsOf e) _ y IG N.symm⟩
 let cc:Nat->Value:=λj=>(w.cell? (a.add j)).getD undef
 have k:∀(j:Nat) y,(l.flatMap V.cells)[j]? =some y->w.cell? (a.add j)=some (cc j)/\(cc j).oneCell'=true/\Rv w G (cc j) y:=by
  intro j y hy;obtain⟨c,I,W,h3⟩:=u j y hy;have:cc j=c:=by simp[cc,I]
  rw[this];exact⟨I,W,h3⟩
 have Z:0<l.length->G.O a.block= .fz:=by
  intro h0;rw[r]at h0;have ab:0< (l.flatMap V.cells).length:=by rw[sH F,r];exact Nat.mul_pos h0 hz
  have I:=(k 0 (l.flatMap V.cells)[0] Ad).1;refine hG _ ?_;have Y:(a.add 0).block=a.block:=Gj;rcases Sj a.block w.heap.size with h|h;exact h;exfalso;have:w.heap[(a.add 0).block]? =none:=by rw[Y];exact Array.getElem?_eq_none h
  simp[World.cell?,this]at I
 refine⟨[.sl l],⟨l,rfl,by rw[r];omega,?_⟩,⟨rfl,λv hv=>by cases Ri.1 hv;rfl,λi v x hv s=>?_⟩,?_,by rw[hc];rfl,λy hy=>Dq⟩;intro x s;obtain⟨i,hi,rfl⟩:=Rn.1 s;have o:=Tf.1 hi;rw[L i o];refine⟨(K i o).2.1,λU=>⟨X i,?_⟩,λU ys=>?_⟩;simp only[E,U,TD];have J:=(K i o).2.2.2.2.1;rw[B U]at J;match g:X i,J with
 | [y],_=>
   simp only[E,U,Tt,g,Vb];have:=(K i o).2.2.2.2.2 y (by rw[g];simp);intro e;rw[e]at this;simp[V.atom]at this
 cases i with
 |zero=>
  simp at hv s;subst hv s;have:=Rv.slS (w:=w) (G:=G) a m l (P.cellsOf e) cc (by rw[r];exact hl) hm Z F (λj y hy=>⟨(k j y hy).1,(k j y hy).2.1⟩) (λj y hy=>(k j y hy).2.2);rwa [r]at this
 |succ i=>simp at hv
 simp only[bM,V.okL,V.ok,UJ];exact M
def wE(P:Program)(T:Tab)(w:World)(G:Gh)(R:List V->Prop)(ts:List TypeId):Prop:=
 ∀(H:Type) (enc:TypeId×Value->H) (vs:List Value) (ds:List (DataW H)) (ps:List MemPlace),DataW.TrodAll enc P w 0 (λ_=>true) true ts vs ds ps->
  (∀(j:Nat) t v,ts[j]? =some t->vs[j]? =some v->(aggB (P.underlying t)=true->∃cs,v= .agg cs)/\(aggB (P.underlying t)=false->∀cs,v≠ .agg cs))->
  ∃ys,R ys/\ys.length=vs.length/\∀(j j':Nat) v y,vs[j]? =some v->ys[j]? =some y->Rb T w G j' v y
def dF6(b:y.pure)(a:linear y=false)(h:Rv w G v y):Rb T w G j v y:=by
 cases y<;>first|exact⟨b,h⟩|(simp[linear]at a)
def aI0(agg:Bool)(xs:List V):V:=cond agg (.agg xs) (xs.headD .bot)
def vW:wE P T w G (λys=>ys=[]) [] :=by
 intro H enc vs ds a h _;obtain⟨rfl,_,_⟩:=trodAll_nil h;exact⟨[],rfl,rfl,Ad⟩
def oV(o:Dec P w G t Q)(m:aggB (P.underlying t)=false->P.cellsOf t=1)(J:wE P T w G R E):
 wE P T w G (λys=>∃xs r,ys=aI0 (aggB (P.underlying t)) xs::r/\Q xs/\R r) (t::E):=by
 intro H enc vs ds U h a;obtain⟨v,A,d,k,p,q,rfl,rfl,rfl,l,F⟩:=trodAll_cons h;let⟨e,l⟩:=l;let⟨xs,L,z,C,D,M⟩:=o H enc e _ _ l;let⟨r,N,O,S⟩:=J H enc A k q F (λj t v o hv=>a (j+1) t v (by simpa using o) BH);refine⟨_,⟨xs,r,rfl,L,N⟩,by simp[O],?_⟩;intro j K u y f g;cases j with
 |succ j=>simp at f g;exact S j K u y f g
 |zero=>
  simp at f g;subst f g;cases n:aggB (P.underlying t)with
  |true=>
   obtain⟨cs,rfl⟩:=(a 0 t v Ad Ad).1 n;have b:RvL w G cs.toList xs:=z;refine dF6 (by simp[aI0,TD,V.ok];exact C) rfl ?_;exact .agg cs xs (by have:=b.len;simpa using this) (λc hc=>b.one c D8) (λi c x hc s=>b.rel i c x D8 s)
  |false=>
   rw[m n]at D;match xs,D with
   | [x],_=>
     have s:=M x Ad;have B:=z.len;have I:=aH.1 C x Ad
     have hv:Rv w G v x:=by
      cases v with
      |agg cs=>
       exact absurd rfl ((a 0 t _ Ad Ad).2 n cs)
      |_=>exact z.rel 0 _ x (by simp[Value.cells]) rfl
     refine dF6 (by simp[aI0,Tt,Vb];exact I) ?_ (by simpa [aI0]using hv);simp[aI0,Tt,Vb];cases x<;>first|rfl|(simp[V.atom]at s)
def cF6(h:Value.okWide P w r b t v):(aggB (P.underlying t)=true->∃cs,v= .agg cs)/\(aggB (P.underlying t)=false->∀cs,v≠ .agg cs):=by
 unfold Value.okWide at h;split at h;rename_i d hu;exact PN;rename_i n e hu;exact PN;rename_i f g;refine⟨λc=>?_,λ_ cs hv=>?_⟩;unfold aggB at c;split at c;rename_i d hu;exact(f d hu).elim;rename_i n e hu;exact(g n e hu).elim;cases c;subst hv;unfold Cell.okWide at h;split at h<;>first|(rename_i a;cases a;done)|(rename_i a _;cases a;done)|skip
 unfold Cell.ok at h;split at h<;>first|(rename_i a;cases a;done)|(rename_i a _;cases a;done)|exact h
def bO3{s:ChangeSpec}{ds gs:List (DataW H)}
 (x:DataW.Whole enc P f.params.toList s.vars c W args.toList ds gs a)
 (l:∀(b:Nat) (o:Nat->Bool) (C:Bool),DataW.TrodAll enc P q b o C f.resultTypes.toList (v.resultList f.resultTypes.size) (s.fn H (ds++gs)).results [])
 (e:∀o:Nat->Bool,(∀p∈a,o p.block=true)->DataW.TrodAll enc P q 0 o true f.params.toList args.toList (s.fn H (ds++gs)).args pa)
 (h:∀o:Nat->Bool,(∀p∈a,o p.block=true)->DataW.TrodVars enc P q o s.vars (s.fn H (ds++gs)).vars pv)
 (i:a=pa++pv)(A:Below W.heap.size W q)
 (z:∀(j:Nat) (t:TypeId) (r:Value),f.resultTypes[j]? =some t->(v.resultList f.resultTypes.size)[j]? =some r->Value.okWide P q .any 0 t r):
 s.post enc P f c n d m W args v q:=by
 have k:∀p∈a,(λb=>decide (b<W.heap.size)) p.block=true:=λp g=>by simpa using x.lt p g
 have y:=λp g=>x.lt p g;refine⟨ds,gs,a,[],pa,pv,x,l _ _ _,e _ k,h _ k,World.keptBut_mono (λp g=>⟨g,?_⟩) (A.frame (·∈a)),λ_=>?_⟩
 ·rw[i,Rh]at g
  exact Or.inr g
 ·let⟨_,_,_,_,_,E,D⟩:=x
  refine⟨z,_,_,([] ++pa)++pv,⟨[] ++pa,pv,trodAll_append (e _ (λ_ _=>rfl)) (l _ _ _),h _ (λ_ _=>rfl),rfl,?_,?_⟩,?_⟩
  ·intro b off g
   have u:MemPlace.cell b off∈a:=by rw[i];simpa using g
   rw[A.frozen (p:=⟨b,off,none⟩) (y _ u)];exact E b off u
  ·intro B
   have:=D B;rw[i]at this;simpa using this
  ·intro p g _
   rw[i];simpa using g
def bN8(o:laidOutB P=true)(n:Below W.heap.size W j):∀ b  vs (ds:List (DataW H))  a,
 (∀t∈b,P.readableRec t=true/\t<P.types.size)->DataW.TrodAll enc P W 0 (λ_=>true) true b vs ds a->(∀p∈a,p.block<W.heap.size/\k p.block=true)->DataW.TrodAll enc P j 0 k true b vs ds a:=by
 intro b;induction b with
 |nil=>
  intro vs ds a _ h _;obtain⟨rfl,rfl,rfl⟩:=trodAll_nil h;exact trodAll_mk0
 |cons t r s=>
  intro vs ds a f h e;obtain⟨v,i,d,c,p,q,rfl,rfl,rfl,l,m⟩:=trodAll_cons h;refine trodAll_cons_mk ?_ (s i c q (λt g=>f t (by simp[g])) m (λx hx=>e x BI));exact WideElems.Trod_stays o (f t Ad).1 (f t Ad).2 l (λx hx=>n.same (e x BI).1) (λx hx=>(e x BI).2)
def bQ(W:World):Gh:=⟨λ_=>0,λ_ _=>undef,λb=>if b<W.heap.size then .fz else .ext⟩
def jZ W:∀b,b<W.heap.size->(bQ W).O b= .fz:=λb a=>by simp[bQ,a]
def tJ{s:ChangeSpec}(hl:laidOutB P=true)(l:s.vars=[])(ae:∀ H  ds,ds.length=o.params.size->s.fn H ds={results:=[.lit (.bool true)],args:=ds})
 (u:o.resultTypes= #[tb])(N:P.underlying tb=some .bool)(aj:∀t∈o.params.toList,P.readableRec t=true/\t<P.types.size)
 (J:∀W:World,wE P T W (bQ W) R o.params.toList)(D:∀ys,R ys->Spec T P f ys (.lit (.bool true)))
  W F args(ds gs:List (DataW H)) n
 (Q:∀(j:Nat) t v,o.params[j]? =some t->args[j]? =some v->Value.okWide P W .any F t v)
 (hW:DataW.Whole enc P o.params.toList s.vars a W args.toList ds gs n)(K:T.lay W (λb=>b<W.heap.size)):
 Calls P f args W λe U=>∃v,e= .returned v/\s.post enc P o a A c z W args v U:=by
 have I:=hW;obtain⟨p,q,Y,hV,rfl,al,am⟩:=hW;rw[l]at hV;obtain⟨rfl,rfl⟩:=trodVars_none hV;let⟨ys,hR,L,ah⟩:=J W H enc args.toList ds p Y (λj t v ht hv=>cF6 (Q j t v (by simpa using ht) BH));let⟨ac,hs⟩:=D ys hR
 have ab:∀b,(bQ W).O b≠ .ext->b<W.heap.size:=λb m=>by
  by_cases h:b<W.heap.size;exact h;simp[bQ,h]at m
 have aa:∀b i,(bQ W).O b≠ .bx i:=λb i m=>by
  by_cases h:b<W.heap.size<;>simp[bQ,h]at m
 have Z:∀b j,(bQ W).O b≠ .ar j:=λb i m=>by
  by_cases h:b<W.heap.size<;>simp[bQ,h]at m
 refine(hs W (bQ W) args (by rw[L];simp) ab aa (λj v y hv hy=>ah j j v y BH hy) (T.lay_mono (λb m=>⟨jZ W b m,rfl⟩) K)).mono ?_;rintro e U ⟨v,G',rfl,hr,_,_,_,_,B,C,ag,E,M⟩;refine⟨v,rfl,?_⟩;have hv:=hr.1.2.bH;subst hv;have m:Below W.heap.size W U:=⟨ag,E,M,C,λk hk=>B k hk (Z k)⟩;have af:∀x∈p,x.block<W.heap.size:=λx hx=>I.lt x BI
 have ad:ds.length=o.params.size:=by
  have gen:∀ S  vs  ds  ps ,DataW.TrodAll enc P W 0 (λ_=>true) true S vs ds ps->ds.length=S.length:=by
   intro S;induction S with
   |nil=>intro vs ds ps h;obtain⟨_,rfl,_⟩:=trodAll_nil h;rfl
   |cons t r ih=>
    intro vs ds ps h;obtain⟨v,ak,d,X,p,q,rfl,rfl,rfl,h1,h2⟩:=trodAll_cons h;simp[ih ak X q h2]
  have:=gen _ _ _ _ Y;simpa using this
 have g:=ae H ds ad;refine bO3 (pa:=p) (pv:=[]) I ?_ ?_ ?_ rfl m ?_
 ·intro b sp hd
  rw[Rq,g,u];exact trodAll_cons_mk (shut_bool N true) trodAll_mk0
 ·intro sp ai
  rw[Rq,g];exact bN8 hl m _ _ _ _ aj Y (λx hx=>⟨af x hx,ai x BI⟩)
 ·intro sp _
  rw[Rq,g,l];rfl
 ·exact ok_one u rfl (okWide_bool_mk N true)
end
end Go.Ab
