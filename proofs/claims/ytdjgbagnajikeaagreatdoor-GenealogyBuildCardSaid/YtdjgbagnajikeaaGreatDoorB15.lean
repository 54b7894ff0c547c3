/-
  The reference's inventory, walked: events that are formed.
-/
import Derived.Test.YtdjgbagnajikeaaGreatDoorSU2
import Derived.Test.YtdjgbagnajikeaaGreatDoorB7
set_option linter.unusedVariables false
set_option linter.unusedSimpArgs false
set_option maxRecDepth 100000
set_option maxHeartbeats 8000000
noncomputable section
namespace Go.Proofs.Led
open Go Go.Proofs Go.Ab
theorem br_bx{x y:Bool}{A B:Prop}(a:(x=true↔y=true)->A)(b:¬(x=true↔y=true)->B):branch (eqBB x y) A B:=by
 rw[cA1];cases x<;>cases y
 ·exact a RN
 ·exact b Af
 ·exact b Af
 ·exact a RN
theorem not_t{x:Bool}:(!x)=true↔¬(x=true):=by cases x<;>simp
theorem fX8(b:Bar)(a:Len6 b.defects):Sp 130 [barV b] (DB (yT b)):=by
 refine zsp Tryz.func130 ?_;have c:=dK6 b bar0 a;have e:DB (yT b)=DB (b=bar0):=Ry DB (propext gC9)
 rw[e];generalize (b=bar0)=P at*;exact zF
theorem fL6(e:Event)(n:iY e)(H:aA4 e.sheet):Sp 85 [aS e] (DB (iD e)):=by
 refine zsp Tryz.func85 ?_;have l:=fR6 e.sheet H;have E:=fX8 e.bar (by have:=n.br;show e.bar.defects.length<=_;omega)
 have Z:=fP7 e.sheet n.sh;have h4:=fR3 e.bar (by have:=n.br;omega)
 have u:=bD8 e.text;have J:=n.ct
 have N:=n.rs;have K:(e.cuts.map dK).length=e.cuts.length:=Af
 have L:(e.rests.map bY).length=e.rests.length:=Af
 have t:iD e↔((e.kind=1\/e.kind=2)->e.id=0/\e.text=aI)/\(¬(e.kind=1\/e.kind=2)->pJ e.sheet/\yT e.bar)/\(e.kind≠5->e.cuts.length=0/\e.rests.length=0/\e.scrap=0)/\
  (e.kind=1->yT e.bar/\dB e.sheet)/\(e.kind=2->pJ e.sheet/\fM e.bar)/\(e.kind=3\/e.kind=7->iM e.text)/\(e.kind=4\/e.kind=6\/e.kind=8->e.text=aI)/\
  (e.kind=5->nY e)/\1<=e.kind/\e.kind<=8:=RN
 have F:nY e↔(∀c∈e.cuts,bU7 c)/\(∀r∈e.rests,bR4 r)/\e.cuts.length<=60/\e.rests.length<=6/\0<=e.scrap/\e.text=aI:=RN;have Q:dB e.sheet->¬pJ e.sheet:=λh q=>by have:=h.1.1;have:=q.1;omega
 have S:fM e.bar->¬yT e.bar:=λh q=>by have:=h.1.1;have:=q.1;omega
 have C:iM e.text->¬e.text=aI:=λh q=>by have l:=h.1;rw[q]at l;exact absurd l (by decide)
 have m:iD e->(∀c∈e.cuts,bU7 c)/\∀r∈e.rests,bR4 r:=λh=>by
  by_cases u:e.kind=5
  ·have q:=(t.1 h).2.2.2.2.2.2.2.1 u
   exact⟨(F.1 q).1,(F.1 q).2.1⟩
  ·obtain⟨a,b,_⟩:=(t.1 h).2.2.1 u
   rw[RH]at a b;rw[a,b];exact⟨λc v=>(by cases v),λc v=>(by cases v)⟩
 generalize iD e=P at*;generalize nY e=X at*;generalize pJ e.sheet=U at*;generalize yT e.bar=V at*;generalize dB e.sheet=q1 at*;generalize fM e.bar=q2 at*;generalize iM e.text=q3 at*;by_cases y:e.kind<1\/8<e.kind
 ·have M:¬P:=λh=>by have:=t.1 h;omega
  rw[dbF M];exact zF
 have i:e.kind=1\/e.kind=2\/e.kind=3\/e.kind=4\/e.kind=5\/e.kind=6\/e.kind=7\/e.kind=8:=Aa;clear y;by_cases o:U;all_goals by_cases s:V
 all_goals by_cases O:e.text=aI
 all_goals first|rw[dbT o]at l|rw[dbF o]at l
 all_goals first|rw[dbT s]at E|rw[dbF s]at E
 all_goals rcases i with i|i|i|i|i|i|i|i
 all_goals
  repeat' ((conv=>whnf);first|(exfalso;contradiction)|refine eZ1 Aj ?_|(refine br_bx (λg=>?_) (λg=>?_)<;>simp[aA1,eG4,not_t,dH,i,O]at g)|omega|refine zS ?_|refine zT ?_ ?_<;>intro _|fail)
 all_goals conv=>whnf
 all_goals first
  |exact aA (aC (λh=>by have:=t.1 h;grind))
  |skip
 all_goals first
  |(exfalso;exact C Ag Ag)
  |skip
 all_goals
  refine aU (A:=List Made) (B:=List Made) (λD R=>mkSt [(1, .box 1 0),(4,I D.length)] [(1,iJ e)] []) (λD R=>e.cuts=D++R/\∀c∈D,bU7 c) (λD R=>R.length) [] e.cuts ?_ ⟨rfl,Af⟩ (λD R hp=>?_)
  ·exact zj
  obtain⟨hp,hD⟩:=hp
  cases R with
  |cons c R=>
   have j:=aO hp;have G:=fW3 c.id
   have Y:=bD8 c.part;have k:c∈e.cuts:=Ae
   have g:bU7 c↔nC c.id/\iM c.part/\1<=c.size:=RN;have d:¬bU7 c->¬P:=λh q=>h ((m q).1 c k)
   have f:bU7 c->∀z∈D++[c],bU7 z:=λh z hz=>Jf;generalize bU7 c=T at*;generalize nC c.id=W at*;generalize iM c.part=w2 at*
   repeat' ((conv=>whnf);first|omega|refine zS ?_|refine zT ?_ ?_<;>intro _|fail)
   all_goals conv=>whnf
   all_goals first
    |exact aA (aC (d (λh=>absurd (g.1 h).1 Ag)))
    |exact aA (aC (d (λh=>absurd (g.1 h).2.1 Ag)))
    |exact aA (aC (d (λh=>by have:=(g.1 h).2.2;omega)))
    |skip
   all_goals (refine⟨(D++[c],R),?_,⟨Ae,f (g.2 ⟨Ag,Ag,Aa⟩)⟩,Af⟩)
   all_goals simp only[QU,QY]
   all_goals
    exact zj
  |nil=>
  have j:e.cuts.length=D.length:=Ae;have hA:∀c∈e.cuts,bU7 c:=λc h=>hD c BG
  clear hD hp
  repeat' ((conv=>whnf);first|omega|refine zS ?_|refine zT ?_ ?_<;>intro _|fail)
  refine aU (A:=List Rest) (B:=List Rest) (λD R=>mkSt [(1, .box 1 0),(5,I D.length)] [(1,iJ e)] []) (λD R=>e.rests=D++R/\∀c∈D,bR4 c) (λD R=>R.length) [] e.rests ?_ ⟨rfl,Af⟩ (λD R hp=>?_)
  ·exact zj
  obtain⟨hp,hD⟩:=hp
  cases R with
  |cons c R=>
   have j:=aO hp;have G:=fW3 c.id
   have k:c∈e.rests:=Ae;have g:bR4 c↔nC c.id/\(c.box=bx0\/(c.lo=0/\c.hi=0)):=RN
   have d:¬bR4 c->¬P:=λh q=>h ((m q).2 c k);have f:bR4 c->∀z∈D++[c],bR4 z:=λh z hz=>Jf
   generalize bR4 c=T at*;generalize nC c.id=W at*
   repeat' ((conv=>whnf);first|omega|refine cC5 ?_|refine cA4 (a:=c.box) (b:=bx0) (λhv=>?_) (λhv=>?_)|refine zS ?_|refine zT ?_ ?_<;>intro _|fail)
   all_goals conv=>whnf
   all_goals first
    |exact aA (aC (d (λh=>absurd (g.1 h).1 Ag)))
    |exact aA (aC (d (λh=>by rcases(g.1 h).2 with w|w<;>first|contradiction|omega)))
    |refine⟨(D++[c],R),?_,⟨Ae,f (g.2 ⟨Ag,by first|exact .inl (by assumption)|exact .inr ⟨by omega,by omega⟩⟩)⟩,Af⟩
   all_goals simp only[QU,QY]
   all_goals
    exact zj
  |nil=>
  have x:e.rests.length=D.length:=Ae;have hB:∀c∈e.rests,bR4 c:=λc h=>hD c BG
  clear hD hp
  repeat' ((conv=>whnf);first|omega|refine zS ?_|refine zT ?_ ?_<;>intro _|fail)
  all_goals conv=>whnf
  all_goals exact aA (fE (t.2 CV))
theorem fH6{s:aJ}{e:Event}(h:iD e):appR s e=bP2 s e:=QO h
theorem gA3{e:Event}(h:iD e)(d:e.kind≠1)(f:e.kind≠2)(c:e.kind≠5):idsR e=[] :=by
 obtain⟨a,b,_⟩:=h.2.2.1 c;simp_all [RH,Q5,idsR,fO]
theorem gH5{s:aJ}{e:Event}(h:iD e)(hd:¬dP s.used (idsR e)):appR s e=(inv0,7):=by
 rw[fH6 h];by_cases a:e.kind=1
 ·have hi:idsR e=[e.sheet.id] :=QO a
  rw[hi]at hd;unfold bP2 nM;rw[QO a];exact Qx
 by_cases b:e.kind=2
 ·have hi:idsR e=[e.bar.id] :=(Q5 a).trans (QO b)
  rw[hi]at hd;unfold bP2 nM;rw[Q5 a,QO b];exact Qx
 by_cases c:e.kind=5
 ·have hi:idsR e=fO e:=(Q5 a).trans (Q5 b)
  rw[hi]at hd;unfold bP2 cutR;simp_all
 ·rw[gA3 h a b c]at hd
  exact absurd trivial hd
theorem app1{s:aJ}{e:Event}(h:iD e)(b:e.kind=1)(a:dP s.used (idsR e)):appR s e=(aX7 s ⟨false,e.sheet,bar0,aI⟩,0):=by
 have hi:idsR e=[e.sheet.id] :=QO b;rw[hi]at a;rw[fH6 h];unfold bP2 nM;rw[QO b];exact Q5 a.1
theorem app2{s:aJ}{e:Event}(h:iD e)(b:e.kind=2)(a:dP s.used (idsR e)):appR s e=(aX7 s ⟨true,dN,e.bar,aI⟩,0):=by
 have hi:idsR e=[e.bar.id] :=(Q5 Aa).trans (QO b);rw[hi]at a;rw[fH6 h];unfold bP2 nM;rw[Q5 Aa,QO b];exact Q5 a.1
theorem app3{s:aJ}{e:Event}(h:iD e)(k:e.kind=3):appR s e=relR s e:=by
 simp_all [fH6,Q5,QO,bP2]
theorem app4{s:aJ}{e:Event}(h:iD e)(k:e.kind=4):appR s e=bP3 s e:=by
 simp_all [fH6,Q5,QO,bP2]
theorem app8{s:aJ}{e:Event}(h:iD e)(k:e.kind=8):appR s e=bQ0 s e:=by
 simp_all [fH6,Q5,bP2]
theorem app6{s:aJ}{e:Event}(h:iD e)(k:e.kind=6):appR s e=nK s e.id 2 aI:=by
 simp_all [fH6,Q5,QO,bP2]
theorem app7{s:aJ}{e:Event}(h:iD e)(k:e.kind=7):appR s e=nK s e.id 3 e.text:=by
 simp_all [fH6,Q5,QO,bP2]
theorem gI5{s:aJ}{e:Event}{k:Nat}{m:aN}(u:(s.used.map id).Pairwise (·<·))(t:dP s.used (fO e))(f:nY e)(v: -100000000000000<=gG m)(j:gG m<=100000000000000)
 (o:∀r∈e.rests,iG m r=0->0<=gG (dZ m r)/\gG (dZ m r)<=100000000000000):
 cutQ s k m e=if cZ m [] e.rests≠0 then(inv0,cZ m [] e.rests)else if nJ m e≠e.scrap then(inv0,29)else(cut5 s e k m,0):=by
 obtain⟨l,w,x,y,n,z⟩:=f;unfold cutQ;by_cases d:cZ m [] e.rests≠0
 ·rw[QO d,QO d]
 ·rw[Q5 d,Q5 d]
  have a:=SN.1 d
  have hi:fG3 (gG m) (sumQ (begQ m e) m e.rests) e.cuts=0↔nJ m e=e.scrap:=by
   by_cases i:0<=gG m
   ·exact gE9 i j n (λc f=>(l c f).2.2) Aa a (λr b=>o r b (fI0 m _ _ a r b))
   ·exact gH2 v Aa n (λc f=>(l c f).2.2) Aa a (λr b=>o r b (fI0 m _ _ a r b))
  by_cases g:nJ m e=e.scrap
  ·rw[Q5 (λq=>q (hi.2 g)),Q5 (λq=>q g),gH7 u a t]
   rfl
  ·rw[QO (λq=>g (hi.1 q)),QO g]
open Classical in
theorem app5{s:aJ}{e:Event}(h:iD e)(k:e.kind=5)(l:(s.used.map id).Pairwise (·<·))(c:dP s.used (idsR e))
 (i:∀m∈s.stocks,-100000000000000<=gG m/\gG m<=100000000000000/\∀r∈e.rests,iG m r=0->0<=gG (dZ m r)/\gG (dZ m r)<=100000000000000):
 appR s e=aD6 s e.id λm=>if m.program≠aI then cutQ s (bs sid s.stocks e.id) m e else(inv0,10):=by
 have hi:idsR e=fO e:=(Q5 Aa).trans (Q5 Aa);rw[hi]at c;rw[fH6 h];unfold bP2 cutR;rw[Q5 Aa,Q5 Aa,Q5 Aa,Q5 Aa,QO k,Q5 (λq=>q c)];unfold aD6;by_cases a:∃m∈s.stocks,sid m=e.id
 ·rw[QO a,QO a]
  cases j:s.stocks[bs sid s.stocks e.id]? with
  |none=>rfl
  |some m=>
   simp only;obtain⟨d,f,g⟩:=i m (QT j);by_cases b:m.program=aI
   ·rw[QO b,Q5 (λq=>q b)]
   ·rw[Q5 b,QO b]
    exact(gI5 l c (h.2.2.2.2.2.2.2.1 k) d f g).symm
 ·rw[Q5 a,Q5 a]
theorem gG5{a b:Vc}(i:within a 2000)(j:within b 2000): -200000000<=bZ a b/\bZ a b<=200000000:=by
 have e:W (0-2000)= -2000:=Ai;unfold within at i j;rw[e]at i j;have c:Sm a.1:=⟨Aa,Aa⟩
 have d:Sm a.2:=⟨Aa,Aa⟩;have f:Sm b.1:=⟨Aa,Aa⟩
 have g:Sm b.2:=⟨Aa,Aa⟩;have k:=vG c g
 have l:=vG d f;rw[iK c d f g];omega
theorem getD_in{r:Rg}(h:bR7 r)(i:Nat):within (r.getD i z0) 2000:=by
 rw[Sj]
 cases hi:r[i]? with
 |none=>
  have e:W (0-2000)= -2000:=Ai;show within z0 2000;unfold within;rw[e];exact⟨Ai,Ai,Ai,Ai⟩
 |some v=>exact h v (QT hi)
theorem fY5{r:Rg}(h:bR7 r):∀n:Nat,n<=40->-((n:Int)*200000000)<=cI8 r n/\cI8 r n<=(n:Int)*200000000
 |0,_=>⟨U2 _,U2 _⟩
 |n+1,a=>by
  obtain⟨b,c⟩:=fY5 h n Aa;obtain⟨d,f⟩:=gG5 (getD_in h n) (getD_in h ((n+1)% r.length));have e:bZ (r.getD n z0) (iU r n)=bZ (r.getD n z0) (r.getD ((n+1)% r.length) z0):=rfl;grind [bC2,w_in]
theorem fT0(r:Rg):0<=nG r/\nG r<=8000000000:=by
 unfold nG;split
 ·rename_i h
  obtain⟨_,a,b,c,_⟩:=h;have:=fY5 b r.length a;unfold zY at*;omega
 ·exact⟨U2 _,Ai⟩
theorem gJ2(l:List Rg):∀a:Int,l.length<=100->-10000000000000+(l.length:Int)*8000000000<=a->a<=10000000000000->-10000000000000<=qH a l/\qH a l<=10000000000000:=by
 induction l with
 |nil=>
  intro a c b d;have e:qH a [] =a:=rfl;rw[e];simp only[SL]at b;omega
 |cons r l f=>
  intro a c b d;have e:qH a (r::l)=qH (W (a-nG r)) l:=rfl;obtain⟨g,i⟩:=fT0 r;simp only[Rf]at b c;rw[e];generalize nG r=z at*;rw[w_in Aa];exact f _ Aa Aa Aa
theorem gI4(s:Sh): -100000000000000<=uK s/\uK s<=100000000000000:=by
 unfold uK;split
 ·rename_i h
  obtain⟨b,c⟩:=fT0 s.outer;have a:(rings s).length<=7:=by unfold rings;rw[Rf];have:=h.1;omega
  generalize nG s.outer=z at*;have:=gJ2 (rings s) (W (2*z)) Aa (by rw[w_in (by omega)];omega) (by rw[w_in (by omega)];omega)
  omega
 ·exact⟨Ai,Ai⟩
def fT2(x:aN):Prop:=x.isBar=true->0<=x.bar.length/\x.bar.length<=100000000000000
def Bd(s:aJ):Prop:=∀x∈s.stocks,fT2 x
theorem bd0:Bd inv0:=λx hx=>Ht
theorem fV0{x:aN}(h:fT2 x): -100000000000000<=gG x/\gG x<=100000000000000:=by
 unfold gG;split
 ·rename_i a
  have:=h a;omega
 ·exact gI4 _
theorem fZ0{x:aN}{r:Rest}(e:fT2 x)(h:iG x r=0):fT2 (dZ x r):=by
 intro a;unfold dZ at a⊢;by_cases b:x.isBar=false
 ·rw[QO b]at a
  split at a<;>cases a
 ·rw[Q5 b,QO h]
  have c:x.isBar=true:=by cases d:x.isBar with
   |true=>rfl
   |false=>exact absurd d b
  have a:=e c;unfold iG at h;rw[Q5 b]at h;grind [w_in]
theorem gI6{x:aN}{r:Rest}(a:fT2 x)(h:iG x r=0):0<=gG (dZ x r)/\gG (dZ x r)<=100000000000000:=
 ⟨(yP h (λb=>by have:=a b;unfold R6;omega)).1,(fV0 (fZ0 a h)).2⟩
theorem gI7{s g:aJ}{e:Event}(hv:Bd s)(u:Step s e g):Bd g:=by
 cases u with
 |recv x w D=>
  intro y a;rcases fH.1 a with rfl|a
  ·rcases w with⟨_,rfl,h⟩|⟨_,rfl,h⟩
   ·exact λq=>Hy
   ·exact λ_=>(by
     obtain⟨_,i,A,_⟩:=h;show 0<=e.bar.length/\e.bar.length<=100000000000000;omega)
  ·exact hv y a
 |setK k m p f c b=>
  intro y a;rcases mem_set a with rfl|a
  ·exact(hv m (fC c):fT2 m)
  ·exact hv y a
 |disc k m f c b=>exact λy a=>hv y ((kM _ _).subset a)
 |setP k m st o f c v b=>exact hv
 |cut k m f B n c b E t C=>
  intro y a;rw[aF7]at a
  have d:∀(xs l:List aN),y∈xs.foldl (putK sid) l->y∈l\/y∈xs:=by
   intro xs
   induction xs with
   |nil=>exact λl h=> .inl h
   |cons x xs z=>
    intro l h;rw[RY]at h;rcases z _ h with h|h
    ·rcases fH.1 h with rfl|h
     ·exact .inr Af
     ·exact .inl h
    ·exact .inr (by simp[h])
  rcases d _ _ a with a|a
  ·exact hv y ((kM _ _).subset a)
  ·obtain⟨r,i,rfl,j⟩:=yU t a
   exact fZ0 (hv m (fC c)) j
structure Fine(s:aJ)(n:Nat):Prop where
 ok:Ok s n
 bd:Bd s
theorem gG6:Fine inv0 0:=⟨ok0,bd0⟩
theorem fN9{s:aJ}{e:Event}{n:Nat}(h:Fine s n)(b:(appR s e).2=0):Fine (appR s e).1 (n+more e):=by
 have a:=(aZ6 h.ok b).2;exact⟨eR5 h.ok a,gI7 h.bd a⟩
theorem gB0(s:aJ)(e:Event)(a:Sp 85 [aS e] (.lit (.bool false))):fnVC T Tryz.prog Tryz.f42 [invV s,aS e] (.tup [invV inv0,I 1]):=by
 exact zF
theorem fO2{s:aJ}{e:Event}{n:Nat}(h:Fine s n)(f:n<=900000)(o:iY e)(j:aA4 e.sheet)(l:e.cuts.length<=10000)(p:e.rests.length<=10000):
 Sp 42 [invV s,aS e] (.tup [invV (appR s e).1,I (appR s e).2]):=by
 have c:=fL6 e o j;refine zsp Tryz.func42 ?_;by_cases a:iD e;rotate_left
 ·rw[dbF a]at c
  have g:appR s e=(inv0,1):=Q5 a;rw[g];exact gB0 s e c
 ·rw[dbT a]at c
  exact fX9 s e (appR s e) (Ro h.ok.lu f) l p c (λb=>gH5 a b) (Ro h.ok.ls f) (Ro h.ok.lp f) (λk=>(aX9 (a.2.2.2.1 k).2).1)
   (λk b=>app1 a k b) h.ok.ss (λk _=>app3 a k) (λk _=>app4 a k) h.ok.sz (λk _=>app8 a k)
   (λk b=>app5 a k h.ok.su b (λm d=>⟨(fV0 (h.bd m d)).1,(fV0 (h.bd m d)).2,λr _ i=>gI6 (h.bd m d) i⟩))
   (λk b=>app2 a k b) h.ok.sp (λk _=>app6 a k) (λk _=>app7 a k)
   a.2.2.2.2.2.2.2.2.1 a.2.2.2.2.2.2.2.2.2
def fP8(l D:List Event):St:=match D with
 | [] =>mkSt [(0, .sl (l.map aS)),(2,nilV),(3,nilV),(4,I 0)] [] []
 |d::D=>mkSt [(0, .sl (l.map aS)),(2,nilV),(3, .arr 18 D.length),(4,I ((D.length:Int)+1))] [] [(18,⟨D.length, .own,93,(d::D).map aS⟩)]
theorem gD4(l:List Event)(i:l.length<=1000000)(c:∀e∈l,e.cuts.length<=10000/\e.rests.length<=10000):Sp 13 [.sl (l.map aS)] (.own 93 (l.map aS)):=by
 refine zsp Tryz.func13 ?_;have j:(l.map aS).length=l.length:=Af
 repeat' ((conv=>whnf);first|refine zS ?_|fail)
 refine aU (A:=List Event) (B:=List Event) (λD R=>fP8 l D) (λD R=>l=D++R) (λD R=>R.length) [] l ?_ rfl (λD R hp=>?_)
 ·show Le T _ (fP8 l [])
  exact zj
 cases R with
 |cons e R=>
  have a:=aO hp;have g:=bB8 e (by have:=c e Ae;omega) (by have:=c e Ae;omega)
  cases D with
  |nil=>
   have f:([] :List Event).length=0:=rfl
   repeat' ((conv=>whnf);first|omega|refine gX (Q9 rfl) (dA rfl) (Q9 rfl) ?_|refine zS ?_|refine zl (λhlt=>?_) (λhlt=>?_))
   all_goals conv=>whnf
   refine⟨([e],R),?_,Ae,Af⟩;show Le T _ (fP8 l [e]);exact zj
  |cons d D=>
   have hd:(d::D).length=D.length+1:=rfl
   repeat' ((conv=>whnf);first|omega|refine mX (l:=d::D) rfl rfl (.inl rfl) rfl (Q9 rfl) rfl Aa ?_|refine zS ?_|refine zl (λhlt=>?_) (λhlt=>?_))
   all_goals conv=>whnf
   refine⟨(d::D++[e],R),?_,Ae,Af⟩;show Le T _ (fP8 l (d::(D++[e])));unfold fP8;exact Ny
 |nil=>
  have a:l.length=D.length:=Ae;have b:l=D:=Ae
  clear hp;subst b
  cases l with
  |nil=>
   have f:([] :List Event).length=0:=rfl;exact O4
  |cons d D=>exact KD
theorem first_split{f:Type}{Q:f->Prop}:∀ {l:List f},(∃m∈l,Q m)->∃D x R,l=D++x::R/\(∀y∈D,¬Q y)/\Q x
 | [],h=>by obtain⟨m,a,_⟩:=h;cases a
 |y::l,h=>by
  by_cases b:Q y
  ·exact⟨[],y,l,rfl,Af,b⟩
  ·obtain⟨D,x,R,e,g,i⟩:=first_split (Q:=Q) (l:=l) (by
    obtain⟨m,a,d⟩:=h;rcases Rh.1 a with rfl|a
    ·exact absurd d b
    ·exact⟨m,a,d⟩)
   refine⟨y::D,x,R,by rw[e];rfl,λz c=>?_,i⟩
   rcases Rh.1 c with rfl|c
   ·exact b
   ·exact g z c
theorem firstI_fst{c:Type}{key:c->Int}{n:Int}(l:List c):aC2 key l n=fstI (λx=>key x=n) l:=by
 by_cases h:∃m∈l,key m=n
 ·obtain⟨D,x,R,rfl,b,a⟩:=first_split h
  rw[fI9 b a];unfold fstI;have e:fst (λx=>key x=n) (D++x::R)=D.length:=wH (λy f=>by rw[dW.2 (b y f)];rfl) (by rw[dH.2 a];rfl)
  rw[e,QO Af]
 ·rw[aB5 (λx a q=>h ⟨x,a,q⟩)]
  unfold fstI;rw[Q5 (iO.2 (λm d q=>h ⟨m,d,q⟩))]
theorem rFindS_spec(s:aJ)(n:Int)(o:s.stocks.length<=1000000):Sp 99 [invV s,I n] (.tup [aQ (bF5 s n),DB (∃m∈s.stocks,sid m=n)]):=by
 refine zsp Tryz.func99 ?_;have g:=fZ7 s n o;rw[firstI_fst]at g;have hs:bF5 s n=(s.stocks[fst (λx=>sid x=n) s.stocks]?).getD wS:=rfl
 have a:=eD1 (Q:=λx:aN=>sid x=n) (l:=s.stocks);have hi:fstI (λx:aN=>sid x=n) s.stocks=if fst (λx=>sid x=n) s.stocks<s.stocks.length then(fst (λx=>sid x=n) s.stocks:Int)else-1:=rfl
 generalize fstI (λx:aN=>sid x=n) s.stocks=z at*;generalize fst (λx:aN=>sid x=n) s.stocks=k at*;generalize (∃m∈s.stocks,sid m=n)=P at*;have r:(s.stocks.map aQ).length=s.stocks.length:=Af
 by_cases c:k<s.stocks.length
 ·rw[QO c]at hi
  have hP:P:=a.1 c;have j:s.stocks[k]? =some (bF5 s n):=Dl
  rw[hi]at g;generalize bF5 s n=x at*
  repeat' ((conv=>whnf);first|omega|refine zS ?_|refine zd (λi=>?_) (λi=>?_)|refine zl (λa=>?_) (λa=>?_)|refine zk (λf=>?_) (λf=>?_)|refine ze (λe=>?_) (λe=>?_)|refine zm (λx q=>?_)|refine zb (λd=>?_) (λd=>?_))
  all_goals conv=>whnf
  exact NG
 ·rw[Q5 c]at hi
  have hP:¬P:=λh=>c (a.2 h);have j:bF5 s n=wS:=C9
  rw[hi]at g;rw[j]
  repeat' ((conv=>whnf);first|omega|refine zS ?_|refine zd (λi=>?_) (λi=>?_)|refine zl (λa=>?_) (λa=>?_)|refine zk (λf=>?_) (λf=>?_)|refine ze (λe=>?_) (λe=>?_)|refine zm (λx q=>?_)|refine zb (λd=>?_) (λd=>?_))
  all_goals conv=>whnf
  exact NH
theorem rFindP_spec(s:aJ)(n:Int)(o:s.pieces.length<=1000000):Sp 98 [invV s,I n] (.tup [aZ (bF0 s n),DB (∃m∈s.pieces,m.id=n)]):=by
 refine zsp Tryz.func98 ?_;have g:=fO3 s n o;rw[firstI_fst]at g;have hs:bF0 s n=(s.pieces[fst (λx=>x.id=n) s.pieces]?).getD piece0:=rfl
 have a:=eD1 (Q:=λx:Piece=>x.id=n) (l:=s.pieces);have hi:fstI (λx:Piece=>x.id=n) s.pieces=if fst (λx=>x.id=n) s.pieces<s.pieces.length then(fst (λx=>x.id=n) s.pieces:Int)else-1:=rfl
 generalize fstI (λx:Piece=>x.id=n) s.pieces=z at*;generalize fst (λx:Piece=>x.id=n) s.pieces=k at*;generalize (∃m∈s.pieces,m.id=n)=P at*;have r:(s.pieces.map aZ).length=s.pieces.length:=Af
 by_cases c:k<s.pieces.length
 ·rw[QO c]at hi
  have hP:P:=a.1 c;have j:s.pieces[k]? =some (bF0 s n):=Dl
  rw[hi]at g;generalize bF0 s n=x at*
  repeat' ((conv=>whnf);first|omega|refine zS ?_|refine zd (λi=>?_) (λi=>?_)|refine zl (λa=>?_) (λa=>?_)|refine zk (λf=>?_) (λf=>?_)|refine ze (λe=>?_) (λe=>?_)|refine zm (λx q=>?_)|refine zb (λd=>?_) (λd=>?_))
  all_goals conv=>whnf
  exact NG
 ·rw[Q5 c]at hi
  have hP:¬P:=λh=>c (a.2 h);have j:bF0 s n=piece0:=C9
  rw[hi]at g;rw[j]
  repeat' ((conv=>whnf);first|omega|refine zS ?_|refine zd (λi=>?_) (λi=>?_)|refine zl (λa=>?_) (λa=>?_)|refine zk (λf=>?_) (λf=>?_)|refine ze (λe=>?_) (λe=>?_)|refine zm (λx q=>?_)|refine zb (λd=>?_) (λd=>?_))
  all_goals conv=>whnf
  exact NH
end Go.Proofs.Led
namespace Go.Proofs.Led
open Go Go.Proofs Go.Ab Go.RowKit
theorem own_sl{f:FuncId}{ys:List V}{e:TypeId}{l:List V}(h:Sp f ys (.own e l)):Sp f ys (.sl l):=by
 refine⟨h.1,λw G cs R S o U W=>(h.2 w G cs R S o U W).mono ?_⟩;rintro t w' ⟨v,G',rfl,⟨_,hp,ho⟩,I,J,K,C,L,M,N,P,q⟩;rcases ho with⟨hn,Q⟩|⟨b,cap,cur,rfl,hO,E,Z,z,hs,hz,s⟩
 ·subst Q
  exact⟨v,G',rfl,⟨Az,bA2 hn⟩,I,J,K,C,L,M,N,P,q⟩
 ·have F:Keep w' w' G' {G' with O:=upd G'.O b .fz}:=⟨λc a=>by
   show upd G'.O b .fz c= .fz;by_cases e:c=b
   ·rw[e];exact upd_same _ _ _
   ·rw[upd_ne _ _ e];exact a,λ_ _=>rfl⟩
  refine⟨_,{G' with O:=upd G'.O b .fz},rfl,⟨Az,?_⟩,λc a=>F.fz c (I c a),λc a=>?_,λc i=>?_,λc a=>?_,L,M,N,P,q⟩
  ·have B:bM (l.flatMap V.cells):=aH.2 λy n=>by
    obtain⟨x,hx,n⟩:=UH.1 n;have m:=aH.1 hp x hx
    cases x<;>first
     |(simp only[V.cells,QW]at n;rw[n];exact m)
     |(simp only[V.cells]at n;simp only[V.ok]at m;exact aH.1 m y n)
   have H:(l.flatMap V.cells).length<=cur.size:=by
    rw[<-s.len,QZ];have:cur.toList.length=cur.size:=RV;omega
   have g:∀(j:Nat) y,(l.flatMap V.cells)[j]? =some y->∃u,cur[j]? =some u/\u.oneCell'=true/\Rv w' G' u y:=λj y k=>by
    have A:=(QR.1 k).1;have o:=A
    rw[<-s.len]at o;have D:=QS o;have r:=D
    rw[TK]at r;split at r
    ·exact⟨_,by rw[<-TG];exact r,s.one _ (TA o),s.rel j _ y D k⟩
    ·cases r
   refine Rv.slS ⟨b,0,none⟩ cap l (T.row e).size (λj=>(cur[j]?).getD undef) Z z (λ_=>upd_same _ _ _) hz (λj y k=>?_) (λj y k=>?_)
   ·obtain⟨u,d,X,_⟩:=g j y k
    show w'.cell? _=some ((cur[j]?).getD undef)/\_;dsimp only;rw[d];refine⟨?_,X⟩;rw[show(⟨b,0,none⟩:Addr).add j=⟨b,j,none⟩ by unfold Addr.add;split<;>simp_all]
    simp[World.cell?,E,d]
   ·obtain⟨u,d,_,Y⟩:=g j y k
    rw[show(cur[j]?).getD undef=u by rw[d];rfl]
    exact Rv.keep F Y (aH.1 B y (QT k)) (λ_ h=>h.elim) (λ_ _ h=>h.elim)
  ·by_cases e:c=b
   ·rw[e];exact(Rj.1 E).1
   ·exact J c (by rwa [show({G' with O:=upd G'.O b .fz}:Gh).O c=G'.O c from upd_ne _ _ e]at a)
  ·by_cases e:c=b
   ·rw[e,show({G' with O:=upd G'.O b .fz}:Gh).O b= .fz from upd_same _ _ _];simp
   ·rw[show({G' with O:=upd G'.O b .fz}:Gh).O c=G'.O c from upd_ne _ _ e];exact K c i
  ·by_cases e:c=b
   ·rcases C b Ie with⟨_,d⟩|d
    ·rw[hO]at d;cases d
    ·rw[e];exact .inr d
   ·rw[show({G' with O:=upd G'.O b .fz}:Gh).O c=G'.O c from upd_ne _ _ e]at a⊢
    exact C c a
end Go.Proofs.Led
