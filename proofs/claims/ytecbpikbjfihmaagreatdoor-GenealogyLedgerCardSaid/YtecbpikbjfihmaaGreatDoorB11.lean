/- Lemmas. -/
import Derived.Test.YtecbpikbjfihmaaGreatDoorB10
set_option linter.all false
set_option autoImplicit true
set_option relaxedAutoImplicit true
set_option maxRecDepth 100000
set_option maxHeartbeats 8000000
noncomputable section
namespace Go.Proofs.Led
open Go Go.Proofs Go.Ab Tryz
def gG5(i:within a 2000)(j:within b 2000): -200000000<=bZ a b/\bZ a b<=200000000:=by
 have e:W (0-2000)= -2000:=Ai;unfold within at i j;rw[e]at i j;have c:Sm a.1:=⟨Aa,Aa⟩;have d:Sm a.2:=⟨Aa,Aa⟩;have f:Sm b.1:=⟨Aa,Aa⟩;have g:Sm b.2:=⟨Aa,Aa⟩;have k:=vG c g;have l:=vG d f;rw[iK c d f g];omega
def getD_in(h:bR7 r) i:within (r.getD i z0) 2000:=by
 rw[Sz];cases hi:r[i]? with
 |none=>
  have e:W (0-2000)= -2000:=Ai;show within z0 2000;unfold within;rw[e];exact⟨Ai,Ai,Ai,Ai⟩
 |some v=>exact h v (QZ hi)
def fY5(h:bR7 r):∀n:Nat,n<=40->-((n:Int)*200000000)<=cI8 r n/\cI8 r n<=(n:Int)*200000000
 |0,_=>⟨TB _,TB _⟩
 |n+1,a=>by
  let⟨b,c⟩:=fY5 h n Aa;let⟨d,f⟩:=gG5 (getD_in h n) (getD_in h ((n+1)% r.length));have e:bZ (r.getD n z0) (iU r n)=bZ (r.getD n z0) (r.getD ((n+1)% r.length) z0):=rfl;grind [bC2,w_in]
def fT0 r:0<=nG r/\nG r<=8000000000:=by
 unfold nG;split;rename_i h;let⟨_,a,b,c,_⟩:=h;have:=fY5 b r.length a;unfold zY at*;omega;exact⟨TB _,Ai⟩
def gJ2 l:∀a,l.length<=100->-10000000000000+(l.length:Int)*8000000000<=a->a<=10000000000000->-10000000000000<=qH a l/\qH a l<=10000000000000:=by
 induction l with
 |nil=>
  intro a c b d;have e:qH a [] =a:=rfl;rw[e];simp[Tc]at b;omega
 |cons r l f=>
  intro a c b d;have e:qH a (r::l)=qH (W (a-nG r)) l:=rfl;let⟨g,i⟩:=fT0 r;simp[Ro]at b c;rw[e];generalize nG r=z at*;rw[w_in Aa];exact f _ Aa Aa Aa
def gI4 s: -100000000000000<=uK s/\uK s<=100000000000000:=by
 unfold uK;split;rename_i h;let⟨b,c⟩:=fT0 s.outer;have a:(rings s).length<=7:=by unfold rings;rw[Ro];have:=h.1;omega
 generalize nG s.outer=z at*;have:=gJ2 (rings s) (W (2*z)) Aa (by rw[w_in (by omega)];omega) (by rw[w_in (by omega)];omega);omega;exact⟨Ai,Ai⟩
def fT2(x:aN):Prop:=x.isBar=true->0<=x.bar.length/\x.bar.length<=100000000000000
def Bd(s:aJ):Prop:=∀x∈s.stocks,fT2 x
def bd0:Bd inv0:=λx hx=>H8
def fV0(h:fT2 x): -100000000000000<=gG x/\gG x<=100000000000000:=by
 unfold gG;split;rename_i a;have:=h a;omega;exact gI4 _
def fZ0(e:fT2 x)(h:iG x r=0):fT2 (dZ x r):=by
 intro a;unfold dZ at a⊢;by_cases b:x.isBar=false;rw[QU b]at a;split at a<;>cases a
 rw[Q9 b,QU h]
 have c:x.isBar=true:=by cases d:x.isBar with
  |true=>rfl
  |false=>exact absurd d b
 have a:=e c;unfold iG at h;rw[Q9 b]at h;grind [w_in]
def gI6(a:fT2 x)(h:iG x r=0):0<=gG (dZ x r)/\gG (dZ x r)<=100000000000000:=
 ⟨(yP h (λb=>by have:=a b;unfold R6;omega)).1,(fV0 (fZ0 a h)).2⟩
def gI7(hv:Bd s)(t:Step s e s'):Bd s':=by
 cases t with
 |recv x v B=>
  intro y a;rcases fH.1 a with rfl|a;rcases v with⟨_,rfl,h⟩|⟨_,rfl,h⟩;exact λq=>EP
  exact λ_=>(by
   let⟨_,g,w,_⟩:=h;show 0<=e.bar.length/\e.bar.length<=100000000000000;omega)
  exact hv y a
 |setK k m p f c b=>
  intro y a;rcases mem_set a with rfl|a;exact(hv m (fC c):fT2 m);exact hv y a
 |disc k m f c b=>exact λy a=>hv y ((kM _ _).subset a)
 |setP k m st o f c u b=>exact hv
 |cut k m f z j c b C n A=>
  intro y a;rw[aF7]at a
  have d:∀(xs l:List aN),y∈xs.foldl (putK sid) l->y∈l\/y∈xs:=by
   intro xs;induction xs with
   |nil=>exact λl h=> .inl h
   |cons x xs ih=>
    intro l h;rw[RV]at h;exact Pq
  rcases d _ _ a with a|a;exact hv y ((kM _ _).subset a);obtain⟨r,g,rfl,i⟩:=yU n a;exact fZ0 (hv m (fC c)) i
structure Fine(s:aJ)(n:Nat):Prop where
 ok:Ok s n
 bd:Bd s
def gG6:Fine inv0 0:=⟨ok0,bd0⟩
def fN9(h:Fine s n)(b:(appR s e).2=0):Fine (appR s e).1 (n+more e):=by
 have a:=(aZ6 h.ok b).2;exact⟨eR5 h.ok a,gI7 h.bd a⟩
def aplSt(l:List Event)(s:aJ)(K:List Event)(n:Nat):St:=match K with
 | [] =>mkSt [(0, .sl (l.map aS)),(2,nilV),(3,nilV),(4, .box 4 0),(5,I n)] [(4,invC s)] []
 |d::K=>mkSt [(0, .sl (l.map aS)),(2,nilV),(3, .arr 33 K.length),(4, .box 4 0),(5,I n)] [(4,invC s)] [(33,⟨K.length, .own,66,(d::K).map aS⟩)]
structure ApL(l:List Event)(Pr:aJ->Nat->Prop):Prop where
 p0:Pr inv0 0
 ps:∀(s:aJ) (e:Event) (n:Nat),Pr s n->(appR s e).2=0->Pr (appR s e).1 (n+more e)
 ow:∀e∈l,Sp 20 [aS e] (aS e)
 ap:∀e∈l,∀(s:aJ) (n:Nat),Pr s n->n<=900000->Sp 19 [invV s,aS e] (.tup [invV (appR s e).1,I (appR s e).2])
def applied_spec l(U:l.length<=1000000) w(M:ApL l w)(S:moreL l<=900000):Sp 6 [.sl (l.map aS)] (.own 66 ((okEv inv0 l).map aS)):=by
 refine zsp func6 ?_;let⟨F,G,L,J⟩:=M;have W:(l.map aS).length=l.length:=Ad;generalize O:okEv inv0 l=q;repeat' ((conv=>whnf);first|omega|refine zS ?_|refine zd (λj=>?_) (λj=>?_)|refine zl (λi=>?_) (λi=>?_)|refine zk (λg=>?_) (λg=>?_)|refine ze (λf=>?_) (λf=>?_)|refine zm (λx m=>?_)|refine zb (λb=>?_) (λb=>?_))
 refine loop_4 (A:=aJ) (B:=List Event) (C:=List Event) (D:=List Event) (λs K D R=>aplSt l s K D.length) (λs K D R=>l=D++R/\K++okEv s R=q/\K.length<=D.length/\∃n,w s n/\n+moreL R<=900000) (λs K D R=>R.length) inv0 [] [] l ?_ ⟨rfl,O,Rf _,0,F,Aa⟩ (λs K D R hp=>?_);show Le T _ (mkSt [(0, .sl (l.map aS)),(2,nilV),(3,nilV),(4, .box 4 0),(5,I 0)] [(4,invC inv0)] []);exact zj;obtain⟨hp,hK,o,n,z,N⟩:=hp;cases R with
 |cons e R=>
  have r:=aO hp;have P:moreL (e::R)=more e+moreL R:=ED;have Q:=L e Ae;have H:=J e Ae s n z Aa;have k:(D++[e]).length=D.length+1:=Ad;have E:okEv s (e::R)=if(appR s e).2=0 then e::okEv (appR s e).1 R else okEv s R:=rfl
  rw[E]at hK;by_cases c:(appR s e).2=0
  ·rw[QU c]at hK
   have t:=G s e n z c;have u:∃v,w (appR s e).1 v/\v+moreL R<=900000:=⟨_,t,Aa⟩;clear t;rw[c]at H;generalize appR s e=a at*;cases K with
   |nil=>
    repeat' ((conv=>whnf);first|omega|(exfalso;contradiction)|refine cC0 [(4,4),(6,6)] Af Ak ?_|refine gX (QV rfl) (dA rfl) (QV rfl) ?_|refine zS ?_|refine zd (λj=>?_) (λj=>?_)|refine zl (λi=>?_) (λi=>?_)|refine zk (λg=>?_) (λg=>?_)|refine ze (λf=>?_) (λf=>?_)|refine zm (λx m=>?_)|refine zb (λb=>?_) (λb=>?_))
    all_goals conv=>whnf
    refine⟨(a.1,[e],D++[e],R),?_,⟨Ae,hK,Ad,u⟩,Ad⟩;show Le T _ (aplSt l a.1 [e] (D++[e]).length);rw[k];exact zj
   |cons d K=>
    have j:(d::K).length=K.length+1:=rfl;repeat' ((conv=>whnf);first|omega|(exfalso;contradiction)|refine cC0 [(4,4),(6,6)] Af Ak ?_|refine mX (l:=d::K) rfl rfl (.inl rfl) rfl (QV rfl) rfl Aa ?_|refine zS ?_|refine zd (λj=>?_) (λj=>?_)|refine zl (λi=>?_) (λi=>?_)|refine zk (λg=>?_) (λg=>?_)|refine ze (λf=>?_) (λf=>?_)|refine zm (λx m=>?_)|refine zb (λb=>?_) (λb=>?_))
    all_goals conv=>whnf
    refine⟨(a.1,d::(K++[e]),D++[e],R),?_,⟨Ae,by rw[<-hK];simp,by simp at o⊢;omega,u⟩,Ad⟩;show Le T _ (aplSt l a.1 (d::(K++[e])) (D++[e]).length);rw[k];unfold aplSt;exact Nw
  rw[Q9 c]at hK;have u:∃v,w s v/\v+moreL R<=900000:=⟨n,z,Aa⟩;generalize appR s e=a at*;cases K with
  |nil=>
   repeat' ((conv=>whnf);first|omega|(exfalso;contradiction)|refine cC0 [(4,4),(6,6)] Af Ak ?_|refine zS ?_|refine zd (λj=>?_) (λj=>?_)|refine zl (λi=>?_) (λi=>?_)|refine zk (λg=>?_) (λg=>?_)|refine ze (λf=>?_) (λf=>?_)|refine zm (λx m=>?_)|refine zb (λb=>?_) (λb=>?_))
   all_goals conv=>whnf
   refine⟨(s,[],D++[e],R),?_,⟨Ae,hK,Ad,u⟩,Ad⟩;show Le T _ (aplSt l s [] (D++[e]).length);rw[k];exact zj
  |cons d K=>
   have j:(d::K).length=K.length+1:=rfl;repeat' ((conv=>whnf);first|omega|(exfalso;contradiction)|refine cC0 [(4,4),(6,6)] Af Ak ?_|refine zS ?_|refine zd (λj=>?_) (λj=>?_)|refine zl (λi=>?_) (λi=>?_)|refine zk (λg=>?_) (λg=>?_)|refine ze (λf=>?_) (λf=>?_)|refine zm (λx m=>?_)|refine zb (λb=>?_) (λb=>?_))
   all_goals conv=>whnf
   refine⟨(s,d::K,D++[e],R),?_,⟨Ae,hK,by simp at o⊢;omega,u⟩,Ad⟩;show Le T _ (aplSt l s (d::K) (D++[e]).length);rw[k];exact zj
 |nil=>
  have r:l.length=D.length:=Ae;have y:K=q:=by rw[<-hK];show K=K++[];simp
  subst y;cases K with
  |nil=>
   repeat' ((conv=>whnf);first|omega|refine zS ?_|refine zd (λj=>?_) (λj=>?_)|refine zl (λi=>?_) (λi=>?_)|refine zk (λg=>?_) (λg=>?_)|refine ze (λf=>?_) (λf=>?_)|refine zm (λx m=>?_)|refine zb (λb=>?_) (λb=>?_))
   all_goals conv=>whnf
   exact PO
  |cons d K=>
   have j:(d::K).length=K.length+1:=rfl;repeat' ((conv=>whnf);first|omega|refine zS ?_|refine zd (λj=>?_) (λj=>?_)|refine zl (λi=>?_) (λi=>?_)|refine zk (λg=>?_) (λg=>?_)|refine ze (λf=>?_) (λf=>?_)|refine zm (λx m=>?_)|refine zb (λb=>?_) (λb=>?_))
   all_goals exact zE
def fW0{a:Type}{f:a->V}(hf:∀x,(f x).cells.length=n)(l:List a):∀y∈l.map f,y.cells.length=n:=λy hy=>F7
def stR(s:aJ):List V:=[.own 132 (s.stocks.map aQ), .own 134 (s.pieces.map aZ), .own 3 (s.used.map I),I s.received.1,I s.received.2,I s.scrap.1,I s.scrap.2]
def fV4 s(a:s.stocks.length<=1000000)(b:s.pieces.length<=1000000)(c:s.used.length<=1000000):Sp 42 [invV s] (.tup (.bot::stR s)):=by
 refine zsp func42 ?_;have d:(s.stocks.map aQ).length=s.stocks.length:=Ad;have e:(s.pieces.map aZ).length=s.pieces.length:=Ad;have g:(s.used.map I).length=s.used.length:=Ad;repeat' ((conv=>whnf);first|refine iH rfl (.inl rfl) rfl (QV rfl) (fW0 (f:=aQ) (n:=14) (λ_=>rfl) s.stocks) (by show 0+(s.stocks.map aQ).length<=1000000000;omega) ?_|refine iH rfl (.inl rfl) rfl (QV rfl) (fW0 (f:=aZ) (n:=9) (λ_=>rfl) s.pieces) (by show 0+(s.pieces.map aZ).length<=1000000000;omega) ?_|refine iH rfl (.inl rfl) rfl (QV rfl) (fW0 (f:=I) (n:=1) (λ_=>rfl) s.used) (by show 0+(s.used.map I).length<=1000000000;omega) ?_|refine gI0 ?_|refine zS ?_|fail)
 all_goals conv=>whnf
 all_goals exact⟨_,_,rfl,rfl,by repeat' (first|exact trivial|refine And.intro ?_ ?_|exact rfl),rfl⟩
open Classical in
def cutW(s:aJ)(e:Event):aJ×Int:=aD6 s e.id λm=>if m.program≠aI then cutQ s (bs sid s.stocks e.id) m e else(inv0,10)
def apSt(s:aJ)(e:Event)(L:List Int)(i:Nat):St:=
 mkSt [(2, .box 2 0),(3, .box 3 0),(4, .box 4 0),(5,I 0),(6, .sl (L.map I)),(7,I i)] [(2,invC s),(3,iJ e),(4,zInv)] []
def fX9 s e r(aa:s.used.length<=900000)(hc:e.cuts.length<=10000)(hr:e.rests.length<=10000)(hF:Sp 40 [aS e] (.lit (.bool true)))
 (i:¬dP s.used (idsR e)->r=(inv0,7))(Y:s.stocks.length<=900000)(Z:s.pieces.length<=900000)(hz:e.kind=1->gV e.sheet.shape)
 (t:e.kind=1->dP s.used (idsR e)->r=(aX7 s ⟨false,e.sheet,bar0,aI⟩,0))
 (d:(s.stocks.map sid).Pairwise (·<·))
 (v:e.kind=3->dP s.used (idsR e)->r=relR s e)
 (w:e.kind=4->dP s.used (idsR e)->r=bP3 s e)
 (M:∀m∈s.stocks,eY m)
 (H:e.kind=8->dP s.used (idsR e)->r=bQ0 s e)
 (C:e.kind=5->dP s.used (idsR e)->r=cutW s e)
 (u:e.kind=2->dP s.used (idsR e)->r=(aX7 s ⟨true,dN,e.bar,aI⟩,0))
 (J:(s.pieces.map Piece.id).Pairwise (·<·))
 (F:e.kind=6->dP s.used (idsR e)->r=nK s e.id 2 aI)
 (G:e.kind=7->dP s.used (idsR e)->r=nK s e.id 3 e.text)(ad:1<=e.kind)(ab:e.kind<=8):fnVC T Tryz.prog Tryz.f19 [invV s,aS e] (.tup [invV r.1,I r.2]):=by
 have g1:=gC6 e hc hr
 have ac:(idsR e).length<=20000:=by
  unfold idsR fO;split;simp;split;simp;simp;omega
 rw[fJ1]at i t u v w C F G H;generalize hL:idsR e=L at*;have ae:(L.map I).length=L.length:=Ad;have ag:(s.used.map I).length=s.used.length:=Ad;repeat' ((conv=>whnf);first|refine zc hF ?_|refine zc g1 ?_|refine zS ?_|fail)
 refine aU (A:=List Int) (B:=List Int) (λD R=>apSt s e L D.length) (λD R=>L=D++R/\(∀x∈D,x∉s.used)/\D.Pairwise (·≠·)) (λD R=>R.length) [] L ?_ ⟨rfl,Ad, .nil⟩ (λD R hp=>?_)
 ·refine Le.trans (fB (k:=19) rfl (.inl rfl)) ?_
  show Le T _ (apSt s e L 0);exact zj
 obtain⟨hp,hU,hP⟩:=hp;cases R with
 |cons n R=>
  have K:=aO hp;have V:n∈L:=Ae;have O:n∈s.used->r=(inv0,7):=λh=>i (λq=>q.1 n V h)
  have P:n∈D->r=(inv0,7):=λh=>i (λq=>by
   have:=q.2;rw[hp,Si]at this;exact this.2.2 n h n Ad rfl)
  repeat' ((conv=>whnf);first|omega|refine zS ?_|refine zl (λhlt=>?_) (λhlt=>?_))
  refine aU (A:=List Int) (B:=List Int) (λE S=>mkSt [(2, .box 2 0),(3, .box 3 0),(4, .box 4 0),(5,I 0),(6, .sl (L.map I)),(7,I D.length),(8,I E.length)] [(2,invC s),(3,iJ e),(4,zInv)] []) (λE S=>s.used=E++S/\n∉E) (λE S=>S.length) [] s.used ?_ ⟨rfl,Ad⟩ (λE S hq=>?_);exact zj;obtain⟨hq,hE⟩:=hq;cases S with
  |cons m S=>
   have g:=aO hq;repeat' ((conv=>whnf);first|omega|refine eZ1 Ak ?_|refine aB (l:=s.used) Aa ?_|refine aB (l:=L) Aa ?_|refine aF (l:=s.used) (A:=E) (x:=m) (B:=S) hq Aa ?_|refine aF (l:=L) (A:=D) (x:=n) (B:=R) hp Aa ?_|refine zS ?_|refine zl (λhlt=>?_) (λhlt=>?_)|refine ze (λheq=>?_) (λheq=>?_))
   all_goals conv=>whnf
   ·rw[O (by rw[hq];simp[heq])]
    all_goals exact zE
   exact Na
  |nil=>
   have g:s.used.length=E.length:=Au;have W:n∉s.used:=by rw[hq,Rq];exact hE
   repeat' ((conv=>whnf);first|omega|refine zS ?_|refine zl (λhlt=>?_) (λhlt=>?_))
   refine aU (A:=List Int) (B:=List Int) (λE S=>mkSt [(2, .box 2 0),(3, .box 3 0),(4, .box 4 0),(5,I 0),(6, .sl (L.map I)),(7,I D.length),(9,I E.length)] [(2,invC s),(3,iJ e),(4,zInv)] []) (λE S=>D=E++S/\n∉E) (λE S=>S.length) [] D ?_ ⟨rfl,Ad⟩ (λE S hq=>?_);exact zj;obtain⟨hq,hE⟩:=hq;cases S with
   |cons m S=>
    have g:=aO hq;have X:L=E++m::(S++n::R):=Ik;repeat' ((conv=>whnf);first|omega|refine eZ1 Ak ?_|refine aB (l:=L) Aa ?_|refine aF (l:=L) (A:=D) (x:=n) (B:=R) hp Aa ?_|refine aF (l:=L) (A:=E) (x:=m) (B:=S++n::R) X Aa ?_|refine zS ?_|refine zl (λhlt=>?_) (λhlt=>?_)|refine ze (λheq=>?_) (λheq=>?_))
    all_goals conv=>whnf
    ·rw[P (by rw[hq];simp[heq])]
     all_goals exact zE
    exact Na
   |nil=>
    have g:D.length=E.length:=Au;have U:n∉D:=by rw[hq,Rq];exact hE
    repeat' ((conv=>whnf);first|omega|refine zS ?_|refine zl (λhlt=>?_) (λhlt=>?_))
    all_goals conv=>whnf
    refine⟨(D++[n],R),?_,⟨Ae,λx c=>?_,?_⟩,Ad⟩;show Le T _ (apSt s e L (D++[n]).length);rw[QY,Rj];unfold apSt;exact zj;rcases Rh.1 c with c|c;exact hU x c;rw[Ri.1 c];exact W;rw[Si];exact⟨hP,Ui _ _,λx c y hy=>by rw[Ri.1 hy];exact λq=>U (q▸c)⟩
 |nil=>
  have K:L.length=D.length:=Ae;have hDe:L=D:=Ae;replace t:=λh=>t h ⟨Dy,Dz⟩;replace u:=λh=>u h ⟨Dy,Dz⟩;replace v:=λh=>v h ⟨Dy,Dz⟩;replace w:=λh=>w h ⟨Dy,Dz⟩;replace H:=λh=>H h ⟨Dy,Dz⟩;replace C:=λh=>C h ⟨Dy,Dz⟩;replace F:=λh=>F h ⟨Dy,Dz⟩;replace G:=λh=>G h ⟨Dy,Dz⟩;clear i hU hP;have g2:=fV4 s Aa Aa Aa;by_cases k1:e.kind=1
  ·rw[t k1]
   have g3:=fN8 s ⟨false,e.sheet,bar0,aI⟩ Aa Aa;have g4:=fK5 e.sheet.shape (hz k1);repeat' ((conv=>whnf);first|omega|refine eZ1 Ak ?_|refine zc g2 ?_|refine zc g3 ?_|refine zc g4 ?_|refine zS ?_|refine zl (λhlt=>?_) (λhlt=>?_)|refine ze (λheq=>?_) (λheq=>?_))
   all_goals exact zE
  by_cases k2:e.kind=2;rw[u k2];have g3:=fN8 s ⟨true,dN,e.bar,aI⟩ Aa Aa;exact Nk;have af:(s.stocks.map aQ).length=s.stocks.length:=Ad;have g3:=fZ7 s e.id Aa;by_cases k3:e.kind=3
  ·rw[v k3]
   by_cases a:∃m∈s.stocks,sid m=e.id;rotate_left;have e1:relR s e=(inv0,8):=by unfold relR aD6;rw[Q9 a]
   have j:aC2 sid s.stocks e.id= -1:=aB5 (λx c q=>a ⟨x,c,q⟩);rw[e1];rw[j]at g3;exact Nk;obtain⟨m,hm,o⟩:=aB8 d a;have f:=(QW.1 hm).1;rw[fF9 d a]at g3;by_cases b:m.program=aI;rotate_left;have e1:relR s e=(inv0,27):=by unfold relR aD6;rw[QU a,hm];exact Q9 b
   exact Nl;have e1:relR s e=(setK s (bs sid s.stocks e.id) (prog m e.text),0):=by unfold relR aD6;rw[QU a,hm];exact QU b
   rw[e1];generalize bs sid s.stocks e.id=k at*;have N:(s.stocks.set k (prog m e.text)).map aQ=(s.stocks.map aQ).set (k:Int).toNat (aQ (prog m e.text)):=H6;have eR:invV (setK s k (prog m e.text))= .agg [.sl ((s.stocks.map aQ).set (k:Int).toNat (aQ (prog m e.text))), .sl (s.pieces.map aZ), .sl (s.used.map I),I s.received.1,I s.received.2,I s.scrap.1,I s.scrap.2] :=by rw[<-N];rfl
   exact NK
  by_cases k4:e.kind=4
  ·rw[w k4]
   by_cases a:∃m∈s.stocks,sid m=e.id;rotate_left;have e1:bP3 s e=(inv0,8):=by unfold bP3 aD6;rw[Q9 a]
   have j:aC2 sid s.stocks e.id= -1:=aB5 (λx c q=>a ⟨x,c,q⟩);rw[e1];rw[j]at g3;exact Nk;obtain⟨m,hm,o⟩:=aB8 d a;have f:=(QW.1 hm).1;rw[fF9 d a]at g3;by_cases b:m.program≠aI;rotate_left;have e1:bP3 s e=(inv0,10):=by unfold bP3 aD6;rw[QU a,hm];exact Q9 b
   exact Nl;have e1:bP3 s e=(setK s (bs sid s.stocks e.id) (prog m aI),0):=by unfold bP3 aD6;rw[QU a,hm];exact QU b
   rw[e1];generalize bs sid s.stocks e.id=k at*;have N:(s.stocks.set k (prog m aI)).map aQ=(s.stocks.map aQ).set (k:Int).toNat (aQ (prog m aI)):=H6;have eR:invV (setK s k (prog m aI))= .agg [.sl ((s.stocks.map aQ).set (k:Int).toNat (aQ (prog m aI))), .sl (s.pieces.map aZ), .sl (s.used.map I),I s.received.1,I s.received.2,I s.scrap.1,I s.scrap.2] :=by rw[<-N];rfl
   exact NK
  by_cases k8:e.kind=8
  ·rw[H k8]
   by_cases a:∃m∈s.stocks,sid m=e.id;rotate_left;have e1:bQ0 s e=(inv0,8):=by unfold bQ0 aD6;rw[Q9 a]
   have j:aC2 sid s.stocks e.id= -1:=aB5 (λx c q=>a ⟨x,c,q⟩);rw[e1];rw[j]at g3;exact Nk;obtain⟨m,hm,o⟩:=aB8 d a;have f:=(QW.1 hm).1;rw[fF9 d a]at g3;by_cases b:m.program=aI;rotate_left;have e1:bQ0 s e=(inv0,27):=by unfold bQ0 aD6;rw[QU a,hm];exact Q9 b
   exact Nl;have e1:bQ0 s e=(aX4 s (bs sid s.stocks e.id) m,0):=by unfold bQ0 aD6;rw[QU a,hm];exact QU b
   rw[e1];generalize bs sid s.stocks e.id=k at*;have g5:=fJ6 m (M m (QZ hm));unfold aX4;rcases Bool.eq_false_or_eq_true m.isBar with hb|hb;have g4:Sp 47 [B m.isBar] (I 1):=by rw[hb];exact fG6 true
   have g6:=fG9 {s with scrap:=plus true s.scrap (gG m)} k f (by show s.stocks.length<=_;omega);exact NJ;have g4:Sp 47 [B m.isBar] (I 0):=by rw[hb];exact fG6 false
   have g6:=fG9 {s with scrap:=plus false s.scrap (gG m)} k f (by show s.stocks.length<=_;omega);exact NJ
  by_cases k5:e.kind=5
  ·rw[C k5]
   by_cases a:∃m∈s.stocks,sid m=e.id;rotate_left;have e1:cutW s e=(inv0,8):=by unfold cutW aD6;rw[Q9 a]
   have j:aC2 sid s.stocks e.id= -1:=aB5 (λx c q=>a ⟨x,c,q⟩);rw[e1];rw[j]at g3;exact Nk;obtain⟨m,hm,o⟩:=aB8 d a;have f:=(QW.1 hm).1;rw[fF9 d a]at g3;by_cases b:m.program≠aI;rotate_left;have e1:cutW s e=(inv0,10):=by unfold cutW aD6;rw[QU a,hm];exact Q9 b
   exact Nl;have e1:cutW s e=cutQ s (bs sid s.stocks e.id) m e:=by unfold cutW aD6;rw[QU a,hm];exact QU b
   rw[e1];generalize bs sid s.stocks e.id=k at*;have g5:=gD2 s k m e hm Y Z aa (M m (QZ hm)) hc hr;generalize cutQ s k m e=Q at*;repeat' ((conv=>whnf);first|omega|(exfalso;contradiction)|refine jI (λheq=>?_) (λheq=>?_)|refine aB (l:=s.stocks) Aa ?_|refine gK (l:=s.stocks) hm Aa ?_|refine zc g2 ?_|refine zc g3 ?_|refine zc g5 ?_|refine zS ?_|refine zl (λhlt=>?_) (λhlt=>?_)|refine ze (λheq=>?_) (λheq=>?_))
   all_goals exact zE
  have hmp:(s.pieces.map aZ).length=s.pieces.length:=Ad;by_cases k6:e.kind=6
  ·rw[F k6]
   have g3:=fO3 s e.id Aa;by_cases a:∃m∈s.pieces,m.id=e.id;rotate_left;have e1:nK s e.id 2 aI=(inv0,8):=by unfold nK;rw[Q9 a]
   have j:aC2 Piece.id s.pieces e.id= -1:=aB5 (λx c q=>a ⟨x,c,q⟩);rw[e1];rw[j]at g3;exact Nk;obtain⟨m,hm,o⟩:=aB8 J a;have f:=(QW.1 hm).1;rw[fF9 J a]at g3;by_cases b:m.status=1;rotate_left;have e1:nK s e.id 2 aI=(inv0,10):=by unfold nK;rw[QU a,hm];exact Q9 b
   exact NW;have e1:nK s e.id 2 aI=(setP s (bs Piece.id s.pieces e.id) (marked m 2 aI),0):=by unfold nK;rw[QU a,hm];exact QU b
   rw[e1];generalize bs Piece.id s.pieces e.id=k at*;have eR:invV (setP s k (marked m 2 aI))= .agg [.sl (s.stocks.map aQ), .sl (((s.pieces.map aZ).set (k:Int).toNat (aZ {m with status:=2})).set (k:Int).toNat (aZ (marked m 2 aI))), .sl (s.used.map I),I s.received.1,I s.received.2,I s.scrap.1,I s.scrap.2] :=by rw[SK,List.set_set];unfold setP;rw[<-Vd];rfl
   simp only;rw[eR];repeat' ((conv=>whnf);first|omega|refine cC0 [(10,10),(116,10),(119,10),(122,77777),(123,77777),(124,77777),(125,77777)] Af Ak ?_|refine aB (l:=s.pieces) Aa ?_|refine dS rfl rfl BL ?_|refine dS rfl rfl BZ ?_|refine dB8 rfl rfl ?_|refine gK (l:=s.pieces) hm Aa ?_|refine cV1 rfl Gw ?_|refine zc g2 ?_|refine zc g3 ?_|refine zS ?_|refine zl (λhlt=>?_) (λhlt=>?_)|refine ze (λheq=>?_) (λheq=>?_))
   all_goals exact zE
  by_cases k7:e.kind=7
  ·rw[G k7]
   have g3:=fO3 s e.id Aa;by_cases a:∃m∈s.pieces,m.id=e.id;rotate_left;have e1:nK s e.id 3 e.text=(inv0,8):=by unfold nK;rw[Q9 a]
   have j:aC2 Piece.id s.pieces e.id= -1:=aB5 (λx c q=>a ⟨x,c,q⟩);rw[e1];rw[j]at g3;exact Nk;obtain⟨m,hm,o⟩:=aB8 J a;have f:=(QW.1 hm).1;rw[fF9 J a]at g3;by_cases b:m.status=1;rotate_left;have e1:nK s e.id 3 e.text=(inv0,10):=by unfold nK;rw[QU a,hm];exact Q9 b
   exact NW;have e1:nK s e.id 3 e.text=(setP s (bs Piece.id s.pieces e.id) (marked m 3 e.text),0):=by unfold nK;rw[QU a,hm];exact QU b
   rw[e1];generalize bs Piece.id s.pieces e.id=k at*;have eR:invV (setP s k (marked m 3 e.text))= .agg [.sl (s.stocks.map aQ), .sl (((((s.pieces.map aZ).set (k:Int).toNat (aZ {m with status:=2})).set (k:Int).toNat (aZ (marked m 2 aI))).set (k:Int).toNat (aZ (marked m 3 aI))).set (k:Int).toNat (aZ (marked m 3 e.text))), .sl (s.used.map I),I s.received.1,I s.received.2,I s.scrap.1,I s.scrap.2] :=by rw[SK,List.set_set,List.set_set,List.set_set];unfold setP;rw[<-Vd];rfl
   simp only;rw[eR];repeat' ((conv=>whnf);first|omega|refine cC0 [(10,10),(116,10),(119,10),(122,77777),(123,77777),(124,77777),(125,77777)] Af Ak ?_|refine cC0 [(10,10),(129,10),(132,10),(3,3),(135,3),(137,77777),(138,77777),(139,77777),(140,77777)] Af Ak ?_|refine aB (l:=s.pieces) Aa ?_|refine dS rfl rfl BL ?_|refine dS rfl rfl BZ ?_|refine dB8 rfl rfl ?_|refine gK (l:=s.pieces) hm Aa ?_|refine cV1 rfl Gw ?_|refine zc g2 ?_|refine zc g3 ?_|refine zS ?_|refine zl (λhlt=>?_) (λhlt=>?_)|refine ze (λheq=>?_) (λheq=>?_))
   all_goals exact zE
  exfalso;omega
def br_bx{A B}(a:(x=true↔y=true)->A)(b:¬(x=true↔y=true)->B):branch (eqBB x y) A B:=by
 rw[cA1];cases x<;>cases y
 exact a RU;exact b Ad;exact b Ad;exact a RU
theorem not_t:(!x)=true↔¬(x=true):=by cases x<;>simp
def fX8 b(a:Len6 b.defects):Sp 80 [barV b] (DB (yT b)):=by
 refine zsp func80 ?_;have c:=dK6 b bar0 a;have e:DB (yT b)=DB (b=bar0):=RI DB (propext gC9);rw[e];generalize (b=bar0)=P at*;exact zF
def fL6 e(n:iY e)(H:aA4 e.sheet):Sp 40 [aS e] (DB (iD e)):=by
 refine zsp func40 ?_;have l:=fR6 e.sheet H;have E:=fX8 e.bar (by have:=n.br;show e.bar.defects.length<=_;omega);have Z:=fP7 e.sheet n.sh;have h4:=fR3 e.bar (by have:=n.br;omega);have u:=bD8 e.text;have J:=n.ct;have N:=n.rs;have K:(e.cuts.map dK).length=e.cuts.length:=Ad;have L:(e.rests.map bY).length=e.rests.length:=Ad
 have t:iD e↔((e.kind=1\/e.kind=2)->e.id=0/\e.text=aI)/\(¬(e.kind=1\/e.kind=2)->pJ e.sheet/\yT e.bar)/\(e.kind≠5->e.cuts.length=0/\e.rests.length=0/\e.scrap=0)/\
  (e.kind=1->yT e.bar/\dB e.sheet)/\(e.kind=2->pJ e.sheet/\fM e.bar)/\(e.kind=3\/e.kind=7->iM e.text)/\(e.kind=4\/e.kind=6\/e.kind=8->e.text=aI)/\
  (e.kind=5->nY e)/\1<=e.kind/\e.kind<=8:=RU
 have F:nY e↔(∀c∈e.cuts,bU7 c)/\(∀r∈e.rests,bR4 r)/\e.cuts.length<=60/\e.rests.length<=6/\0<=e.scrap/\e.text=aI:=RU;have Q:dB e.sheet->¬pJ e.sheet:=λh q=>by have:=h.1.1;have:=q.1;omega
 have S:fM e.bar->¬yT e.bar:=λh q=>by have:=h.1.1;have:=q.1;omega
 have C:iM e.text->¬e.text=aI:=λh q=>by have l:=h.1;rw[q]at l;exact absurd l (by decide)
 have m:iD e->(∀c∈e.cuts,bU7 c)/\∀r∈e.rests,bR4 r:=λh=>by
  by_cases u:e.kind=5;have q:=(t.1 h).2.2.2.2.2.2.2.1 u;exact⟨(F.1 q).1,(F.1 q).2.1⟩;obtain⟨a,b,_⟩:=(t.1 h).2.2.1 u;rw[RS]at a b;rw[a,b];exact⟨λc v=>(by cases v),λc v=>(by cases v)⟩
 generalize iD e=P at*;generalize nY e=X at*;generalize pJ e.sheet=U at*;generalize yT e.bar=V at*;generalize dB e.sheet=q1 at*;generalize fM e.bar=q2 at*;generalize iM e.text=q3 at*;by_cases y:e.kind<1\/8<e.kind;have M:¬P:=λh=>by have:=t.1 h;omega
 rw[dbF M];exact zF;have i:e.kind=1\/e.kind=2\/e.kind=3\/e.kind=4\/e.kind=5\/e.kind=6\/e.kind=7\/e.kind=8:=Aa;clear y;by_cases o:U;all_goals by_cases s:V
 all_goals by_cases O:e.text=aI
 all_goals first|rw[dbT o]at l|rw[dbF o]at l
 all_goals first|rw[dbT s]at E|rw[dbF s]at E
 all_goals rcases i with i|i|i|i|i|i|i|i
 all_goals
  repeat' ((conv=>whnf);first|(exfalso;contradiction)|refine eZ1 Ak ?_|(refine br_bx (λg=>?_) (λg=>?_)<;>simp[aA1,eG4,not_t,dH,i,O]at g)|omega|refine zS ?_|refine zT ?_ ?_<;>intro _|fail)
 all_goals conv=>whnf
 all_goals first
  |exact aA (aC (λh=>by have:=t.1 h;grind))
  |skip
 all_goals first
  |(exfalso;exact C Ag Ag)
  |skip
 all_goals
  refine aU (A:=List Made) (B:=List Made) (λD R=>mkSt [(1, .box 1 0),(4,I D.length)] [(1,iJ e)] []) (λD R=>e.cuts=D++R/\∀c∈D,bU7 c) (λD R=>R.length) [] e.cuts ?_ ⟨rfl,Ad⟩ (λD R hp=>?_)
  ·exact zj
  obtain⟨hp,hD⟩:=hp;cases R with
  |cons c R=>
   have j:=aO hp;have G:=fW3 c.id;have Y:=bD8 c.part;have k:c∈e.cuts:=Ae;have g:bU7 c↔nC c.id/\iM c.part/\1<=c.size:=RU;have d:¬bU7 c->¬P:=λh q=>h ((m q).1 c k);have f:bU7 c->∀z∈D++[c],bU7 z:=λh z hz=>Jk;generalize bU7 c=T at*;generalize nC c.id=W at*;generalize iM c.part=w2 at*;repeat' ((conv=>whnf);first|omega|refine zS ?_|refine zT ?_ ?_<;>intro _|fail)
   all_goals conv=>whnf
   all_goals first
    |exact aA (aC (d (λh=>absurd (g.1 h).1 Ag)))
    |exact aA (aC (d (λh=>absurd (g.1 h).2.1 Ag)))
    |exact aA (aC (d (λh=>by have:=(g.1 h).2.2;omega)))
    |skip
   all_goals (refine⟨(D++[c],R),?_,⟨Ae,f (g.2 ⟨Ag,Ag,Aa⟩)⟩,Ad⟩)
   all_goals simp only[QY,Rj]
   all_goals
    exact zj
  |nil=>
  have j:e.cuts.length=D.length:=Ae;have hA:∀c∈e.cuts,bU7 c:=λc h=>hD c BJ;clear hD hp;repeat' ((conv=>whnf);first|omega|refine zS ?_|refine zT ?_ ?_<;>intro _|fail)
  refine aU (A:=List Rest) (B:=List Rest) (λD R=>mkSt [(1, .box 1 0),(5,I D.length)] [(1,iJ e)] []) (λD R=>e.rests=D++R/\∀c∈D,bR4 c) (λD R=>R.length) [] e.rests ?_ ⟨rfl,Ad⟩ (λD R hp=>?_)
  ·exact zj
  obtain⟨hp,hD⟩:=hp;cases R with
  |cons c R=>
   have j:=aO hp;have G:=fW3 c.id;have k:c∈e.rests:=Ae;have g:bR4 c↔nC c.id/\(c.box=bx0\/(c.lo=0/\c.hi=0)):=RU;have d:¬bR4 c->¬P:=λh q=>h ((m q).2 c k);have f:bR4 c->∀z∈D++[c],bR4 z:=λh z hz=>Jk;generalize bR4 c=T at*;generalize nC c.id=W at*;repeat' ((conv=>whnf);first|omega|refine cC5 ?_|refine cA4 (a:=c.box) (b:=bx0) (λhv=>?_) (λhv=>?_)|refine zS ?_|refine zT ?_ ?_<;>intro _|fail)
   all_goals conv=>whnf
   all_goals first
    |exact aA (aC (d (λh=>absurd (g.1 h).1 Ag)))
    |exact aA (aC (d (λh=>by rcases(g.1 h).2 with w|w<;>first|contradiction|omega)))
    |refine⟨(D++[c],R),?_,⟨Ae,f (g.2 ⟨Ag,by first|exact .inl (by assumption)|exact .inr ⟨by omega,by omega⟩⟩)⟩,Ad⟩
   all_goals simp only[QY,Rj]
   all_goals
    exact zj
  |nil=>
  have x:e.rests.length=D.length:=Ae;have hB:∀c∈e.rests,bR4 c:=λc h=>hD c BJ;clear hD hp;repeat' ((conv=>whnf);first|omega|refine zS ?_|refine zT ?_ ?_<;>intro _|fail)
  all_goals conv=>whnf
  all_goals exact aA (fE (t.2 Bg))
def gB0 s e(a:Sp 40 [aS e] (.lit (.bool false))):fnVC T Tryz.prog Tryz.f19 [invV s,aS e] (.tup [invV inv0,I 1]):=by
 exact zF
def fO2(h:Fine s n)(f:n<=900000)(o:iY e)(j:aA4 e.sheet)(l:e.cuts.length<=10000)(p:e.rests.length<=10000):
 Sp 19 [invV s,aS e] (.tup [invV (appR s e).1,I (appR s e).2]):=by
 have c:=fL6 e o j;refine zsp func19 ?_;by_cases a:iD e;rotate_left
 ·rw[dbF a]at c
  have g:appR s e=(inv0,1):=Q9 a;rw[g];exact gB0 s e c
 ·rw[dbT a]at c
  exact fX9 s e (appR s e) (Rz h.ok.lu f) l p c (λb=>gH5 a b) (Rz h.ok.ls f) (Rz h.ok.lp f) (λk=>(aX9 (a.2.2.2.1 k).2).1)
   (λk b=>app1 a k b) h.ok.ss (λk _=>app3 a k) (λk _=>app4 a k) h.ok.sz (λk _=>app8 a k)
   (λk b=>app5 a k h.ok.su b (λm d=>⟨(fV0 (h.bd m d)).1,(fV0 (h.bd m d)).2,λr _ i=>gI6 (h.bd m d) i⟩))
   (λk b=>app2 a k b) h.ok.sp (λk _=>app6 a k) (λk _=>app7 a k)
   a.2.2.2.2.2.2.2.2.1 a.2.2.2.2.2.2.2.2.2
def aQ4(l:bI1 e)(m:fewE e):iY e/\e.cuts.length<=12/\e.rests.length<=8/\more e<=21:=by
 let⟨⟨v,w,x,j,k⟩,y⟩:=m;let⟨⟨⟨g,q,i⟩,r,f⟩,s,t,u⟩:=l;let⟨n,z,A,B,o⟩:=j;have a:e.cuts.length<=12:=Aa;have b:e.rests.length<=8:=Aa;refine⟨⟨⟨⟨g,?_,i⟩,Aa,λd c=>⟨(f d c).1,?_,(f d c).2.2⟩⟩,by have:=k.2.2;omega,Aa,Aa⟩,a,b,Ht⟩;have:=o.1;omega;have:=(n d c).1;omega
def bH2(h:∀e∈l,more e<=21):moreL l<=21*l.length:=by
 induction l with
 |nil=>exact Rf 0
 |cons e l a=>
  grind [Ro,moreL]
structure AccE(l E:List Event):Prop where
 eq:okEv inv0 l=E
 ln:E.length<=16
 sz:∀e∈E,iY e
 mr:moreL E<=336
 ac:Acc56 inv0 E
def acc_of(f:∀e∈l,bI1 e)(j:fewL l 16):AccE l (okEv inv0 l)/\Sp 6 [.sl (l.map aS)] (.own 66 ((okEv inv0 l).map aS)):=by
 let⟨d,k⟩:=j;have a:=λe b=>aQ4 (f e b) (d e b);have o:=bH2 (λe b=>(a e b).2.2.2);have c:=okEv_sub l inv0;have i:(okEv inv0 l).length<=16:=by have:=c.length_le;omega
 have m:=bH2 (l:=okEv inv0 l) (λe b=>(a e (c.subset b)).2.2.2)
 exact⟨⟨rfl,i,λe b=>(a e (c.subset b)).1,Aa,acc_ok l inv0⟩,
  applied_spec l Aa Fine ⟨gG6,λs e n h g=>fN9 h g,λe b=>bB8 e (by have:=(a e b).2.1;omega) (by have:=(a e b).2.2.1;omega),
   λe b s n h q=>fO2 h q (a e b).1 (f e b).sh (by have:=(a e b).2.1;omega) (by have:=(a e b).2.2.1;omega)⟩ Aa⟩
theorem more_app a b:moreL (a++b)=moreL a+moreL b:=ED
def moreL_take E n:moreL (E.take n)<=moreL E:=by
 grind [more_app,SG]
def bld_take(h:AccE l E) n:Sp 7 [.sl ((E.take n).map aS)] (.tup [.own 40 ((finF inv0 [] (E.take n)).map nodeV),I (E.take n).length,I 0]):=by
 have b:=moreL_take E n;have c:=h.mr;have d:=h.ln;have f:(E.take n).length<=E.length:=AY;have g:=build_spec (E.take n) (λe a=>h.sz e (RP a)) Aa Aa (fit_all _ inv0 [] 0 ok0 rfl Aa);rw[build_acc _ _ _ _ (acc_take E inv0 n h.ac),U7]at g;exact g
def fo_take(h:AccE l E) n:Fo (finI inv0 (E.take n)) (finF inv0 [] (E.take n))/\Ok (finI inv0 (E.take n)) 336/\(finF inv0 [] (E.take n)).length<=336:=by
 have c:=moreL_take E n;have d:=h.mr;let⟨a,b⟩:=acc_fo (E.take n) inv0 [] 0 ok0 fo0 Aa (acc_take E inv0 n h.ac);refine⟨a,b.mono Aa,?_⟩;have e:=b.lu;have f:(finF inv0 [] (E.take n)).length=(finI inv0 (E.take n)).used.length:=by rw[<-a.ids,Rw]
 omega
end Go.Proofs.Led
