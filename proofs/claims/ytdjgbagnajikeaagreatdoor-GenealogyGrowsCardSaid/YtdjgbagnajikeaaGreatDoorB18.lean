/-
  The reference's inventory, walked: events that are formed.
-/
import Derived.Test.YtdjgbagnajikeaaGreatDoorSU2
set_option linter.unusedVariables false
set_option linter.unusedSimpArgs false
set_option maxRecDepth 100000
set_option maxHeartbeats 8000000
noncomputable section
namespace Go.Proofs.Led
open Go Go.Proofs Go.Ab
theorem br_bx{x y:Bool}{A B:Prop}(b:(x=true↔y=true)->A)(a:¬(x=true↔y=true)->B):branch (eqBB x y) A B:=by
 rw[cA1];cases x<;>cases y
 ·exact b Rt
 ·exact a Ae
 ·exact a Ae
 ·exact b Rt
theorem not_t{x:Bool}:(!x)=true↔¬(x=true):=by cases x<;>simp
theorem fX8(b:Bar)(a:Len6 b.defects):Sp 130 [barV b] (DB (yT b)):=by
 refine zsp Tryz.func130 ?_;have c:=dK6 b bar0 a;have e:DB (yT b)=DB (b=bar0):=Rh DB (propext gC9)
 rw[e];generalize (b=bar0)=P at*;exact zF
theorem fL6(e:Event)(t:iY e)(U:aA4 e.sheet):Sp 85 [aS e] (DB (iD e)):=by
 refine zsp Tryz.func85 ?_;have l:=fR6 e.sheet U;have F:=fX8 e.bar (by have:=t.br;show e.bar.defects.length<=_;omega)
 have h3:=fP7 e.sheet t.sh;have Z:=fR3 e.bar (by have:=t.br;omega)
 have y:=bD8 e.text;have S:=t.ct
 have L:=t.rs;have H:(e.cuts.map dK).length=e.cuts.length:=Ae
 have M:(e.rests.map bY).length=e.rests.length:=Ae
 have s:iD e↔((e.kind=1\/e.kind=2)->e.id=0/\e.text=aI)/\(¬(e.kind=1\/e.kind=2)->pJ e.sheet/\yT e.bar)/\(e.kind≠5->e.cuts.length=0/\e.rests.length=0/\e.scrap=0)/\
  (e.kind=1->yT e.bar/\dB e.sheet)/\(e.kind=2->pJ e.sheet/\fM e.bar)/\(e.kind=3\/e.kind=7->iM e.text)/\(e.kind=4\/e.kind=6\/e.kind=8->e.text=aI)/\
  (e.kind=5->nY e)/\1<=e.kind/\e.kind<=8:=Rt
 have E:nY e↔(∀c∈e.cuts,bU7 c)/\(∀r∈e.rests,bR4 r)/\e.cuts.length<=60/\e.rests.length<=6/\0<=e.scrap/\e.text=aI:=Rt;have V:dB e.sheet->¬pJ e.sheet:=λh q=>by have:=h.1.1;have:=q.1;omega
 have O:fM e.bar->¬yT e.bar:=λh q=>by have:=h.1.1;have:=q.1;omega
 have C:iM e.text->¬e.text=aI:=λh q=>by have l:=h.1;rw[q]at l;exact absurd l (by decide)
 have m:iD e->(∀c∈e.cuts,bU7 c)/\∀r∈e.rests,bR4 r:=λh=>by
  by_cases y:e.kind=5
  ·have q:=(s.1 h).2.2.2.2.2.2.2.1 y
   exact⟨(E.1 q).1,(E.1 q).2.1⟩
  ·obtain⟨a,b,_⟩:=(s.1 h).2.2.1 y
   rw[Rn]at a b;rw[a,b];exact⟨λc u=>(by cases u),λc u=>(by cases u)⟩
 generalize iD e=P at*;generalize nY e=X at*;generalize pJ e.sheet=G at*;generalize yT e.bar=N at*;generalize dB e.sheet=q1 at*;generalize fM e.bar=q2 at*;generalize iM e.text=Y at*;by_cases x:e.kind<1\/8<e.kind
 ·have T:¬P:=λh=>by have:=s.1 h;omega
  rw[dbF T];exact zF
 have i:e.kind=1\/e.kind=2\/e.kind=3\/e.kind=4\/e.kind=5\/e.kind=6\/e.kind=7\/e.kind=8:=Aa;clear x;by_cases o:G;all_goals by_cases n:N
 all_goals by_cases K:e.text=aI
 all_goals first|rw[dbT o]at l|rw[dbF o]at l
 all_goals first|rw[dbT n]at F|rw[dbF n]at F
 all_goals rcases i with i|i|i|i|i|i|i|i
 all_goals
  repeat' ((conv=>whnf);first|(exfalso;contradiction)|refine eZ1 Ak ?_|(refine br_bx (λg=>?_) (λg=>?_)<;>simp[aA1,eG4,not_t,dH,i,K]at g)|omega|refine zS ?_|refine zT ?_ ?_<;>intro _|fail)
 all_goals conv=>whnf
 all_goals first
  |exact aA (aC (λh=>by have:=s.1 h;grind))
  |skip
 all_goals first
  |(exfalso;exact C Ag Ag)
  |skip
 all_goals
  refine aU (A:=List Made) (B:=List Made) (λD R=>mkSt [(1, .box 1 0),(4,I D.length)] [(1,iJ e)] []) (λD R=>e.cuts=D++R/\∀c∈D,bU7 c) (λD R=>R.length) [] e.cuts ?_ ⟨rfl,Ae⟩ (λD R hp=>?_)
  ·exact zj
  obtain⟨hp,hD⟩:=hp
  cases R with
  |cons c R=>
   have j:=aO hp;have J:=fW3 c.id
   have g2:=bD8 c.part;have k:c∈e.cuts:=Ad
   have g:bU7 c↔nC c.id/\iM c.part/\1<=c.size:=Rt;have d:¬bU7 c->¬P:=λh q=>h ((m q).1 c k)
   have f:bU7 c->∀z∈D++[c],bU7 z:=λh z hz=>Ja;generalize bU7 c=W at*;generalize nC c.id=Q at*;generalize iM c.part=w2 at*
   repeat' ((conv=>whnf);first|omega|refine zS ?_|refine zT ?_ ?_<;>intro _|fail)
   all_goals conv=>whnf
   all_goals first
    |exact aA (aC (d (λh=>absurd (g.1 h).1 Ag)))
    |exact aA (aC (d (λh=>absurd (g.1 h).2.1 Ag)))
    |exact aA (aC (d (λh=>by have:=(g.1 h).2.2;omega)))
    |skip
   all_goals (refine⟨(D++[c],R),?_,⟨Ad,f (g.2 ⟨Ag,Ag,Aa⟩)⟩,Ae⟩)
   all_goals simp only[QG,QK]
   all_goals
    exact zj
  |nil=>
  have j:e.cuts.length=D.length:=Ad;have hA:∀c∈e.cuts,bU7 c:=λc h=>hD c BF
  clear hD hp
  repeat' ((conv=>whnf);first|omega|refine zS ?_|refine zT ?_ ?_<;>intro _|fail)
  refine aU (A:=List Rest) (B:=List Rest) (λD R=>mkSt [(1, .box 1 0),(5,I D.length)] [(1,iJ e)] []) (λD R=>e.rests=D++R/\∀c∈D,bR4 c) (λD R=>R.length) [] e.rests ?_ ⟨rfl,Ae⟩ (λD R hp=>?_)
  ·exact zj
  obtain⟨hp,hD⟩:=hp
  cases R with
  |cons c R=>
   have j:=aO hp;have J:=fW3 c.id
   have k:c∈e.rests:=Ad;have g:bR4 c↔nC c.id/\(c.box=bx0\/(c.lo=0/\c.hi=0)):=Rt
   have d:¬bR4 c->¬P:=λh q=>h ((m q).2 c k);have f:bR4 c->∀z∈D++[c],bR4 z:=λh z hz=>Ja
   generalize bR4 c=W at*;generalize nC c.id=Q at*
   repeat' ((conv=>whnf);first|omega|refine cC5 ?_|refine cA4 (a:=c.box) (b:=bx0) (λhv=>?_) (λhv=>?_)|refine zS ?_|refine zT ?_ ?_<;>intro _|fail)
   all_goals conv=>whnf
   all_goals first
    |exact aA (aC (d (λh=>absurd (g.1 h).1 Ag)))
    |exact aA (aC (d (λh=>by rcases(g.1 h).2 with w|w<;>first|contradiction|omega)))
    |refine⟨(D++[c],R),?_,⟨Ad,f (g.2 ⟨Ag,by first|exact .inl (by assumption)|exact .inr ⟨by omega,by omega⟩⟩)⟩,Ae⟩
   all_goals simp only[QG,QK]
   all_goals
    exact zj
  |nil=>
  have v:e.rests.length=D.length:=Ad;have hB:∀c∈e.rests,bR4 c:=λc h=>hD c BF
  clear hD hp
  repeat' ((conv=>whnf);first|omega|refine zS ?_|refine zT ?_ ?_<;>intro _|fail)
  all_goals conv=>whnf
  all_goals exact aA (fE (s.2 CP))
theorem fH6{s:aJ}{e:Event}(h:iD e):appR s e=bP2 s e:=Q9 h
theorem gA3{e:Event}(h:iD e)(f:e.kind≠1)(d:e.kind≠2)(c:e.kind≠5):idsR e=[] :=by
 obtain⟨a,b,_⟩:=h.2.2.1 c;simp_all [Rn,Q5,idsR,fO]
theorem gH5{s:aJ}{e:Event}(h:iD e)(hd:¬dP s.used (idsR e)):appR s e=(inv0,7):=by
 rw[fH6 h];by_cases a:e.kind=1
 ·have hi:idsR e=[e.sheet.id] :=Q9 a
  rw[hi]at hd;unfold bP2 nM;rw[Q9 a];exact Qi
 by_cases b:e.kind=2
 ·have hi:idsR e=[e.bar.id] :=(Q5 a).trans (Q9 b)
  rw[hi]at hd;unfold bP2 nM;rw[Q5 a,Q9 b];exact Qi
 by_cases c:e.kind=5
 ·have hi:idsR e=fO e:=(Q5 a).trans (Q5 b)
  rw[hi]at hd;unfold bP2 cutR;simp_all
 ·rw[gA3 h a b c]at hd
  exact absurd trivial hd
theorem app1{s:aJ}{e:Event}(h:iD e)(b:e.kind=1)(a:dP s.used (idsR e)):appR s e=(aX7 s ⟨false,e.sheet,bar0,aI⟩,0):=by
 have hi:idsR e=[e.sheet.id] :=Q9 b;rw[hi]at a;rw[fH6 h];unfold bP2 nM;rw[Q9 b];exact Q5 a.1
theorem app2{s:aJ}{e:Event}(h:iD e)(a:e.kind=2)(b:dP s.used (idsR e)):appR s e=(aX7 s ⟨true,dN,e.bar,aI⟩,0):=by
 have hi:idsR e=[e.bar.id] :=(Q5 Aa).trans (Q9 a);rw[hi]at b;rw[fH6 h];unfold bP2 nM;rw[Q5 Aa,Q9 a];exact Q5 b.1
theorem app3{s:aJ}{e:Event}(h:iD e)(k:e.kind=3):appR s e=relR s e:=by
 simp_all [fH6,Q5,Q9,bP2]
theorem app4{s:aJ}{e:Event}(h:iD e)(k:e.kind=4):appR s e=bP3 s e:=by
 simp_all [fH6,Q5,Q9,bP2]
theorem app8{s:aJ}{e:Event}(h:iD e)(k:e.kind=8):appR s e=bQ0 s e:=by
 simp_all [fH6,Q5,bP2]
theorem app6{s:aJ}{e:Event}(h:iD e)(k:e.kind=6):appR s e=nK s e.id 2 aI:=by
 simp_all [fH6,Q5,Q9,bP2]
theorem app7{s:aJ}{e:Event}(h:iD e)(k:e.kind=7):appR s e=nK s e.id 3 e.text:=by
 simp_all [fH6,Q5,Q9,bP2]
theorem gI5{s:aJ}{e:Event}{k:Nat}{m:aN}(t:(s.used.map id).Pairwise (·<·))(u:dP s.used (fO e))(d:nY e)(v: -100000000000000<=gG m)(j:gG m<=100000000000000)
 (o:∀r∈e.rests,iG m r=0->0<=gG (dZ m r)/\gG (dZ m r)<=100000000000000):
 cutQ s k m e=if cZ m [] e.rests≠0 then(inv0,cZ m [] e.rests)else if nJ m e≠e.scrap then(inv0,29)else(cut5 s e k m,0):=by
 obtain⟨l,x,w,y,n,z⟩:=d;unfold cutQ;by_cases f:cZ m [] e.rests≠0
 ·rw[Q9 f,Q9 f]
 ·rw[Q5 f,Q5 f]
  have b:=Sv.1 f
  have hi:fG3 (gG m) (sumQ (begQ m e) m e.rests) e.cuts=0↔nJ m e=e.scrap:=by
   by_cases i:0<=gG m
   ·exact gE9 i j n (λc d=>(l c d).2.2) Aa b (λr a=>o r a (fI0 m _ _ b r a))
   ·exact gH2 v Aa n (λc d=>(l c d).2.2) Aa b (λr a=>o r a (fI0 m _ _ b r a))
  by_cases g:nJ m e=e.scrap
  ·rw[Q5 (λq=>q (hi.2 g)),Q5 (λq=>q g),gH7 t b u]
   rfl
  ·rw[Q9 (λq=>g (hi.1 q)),Q9 g]
open Classical in
theorem app5{s:aJ}{e:Event}(h:iD e)(k:e.kind=5)(i:(s.used.map id).Pairwise (·<·))(c:dP s.used (idsR e))
 (g:∀m∈s.stocks,-100000000000000<=gG m/\gG m<=100000000000000/\∀r∈e.rests,iG m r=0->0<=gG (dZ m r)/\gG (dZ m r)<=100000000000000):
 appR s e=aD6 s e.id λm=>if m.program≠aI then cutQ s (bs sid s.stocks e.id) m e else(inv0,10):=by
 have hi:idsR e=fO e:=(Q5 Aa).trans (Q5 Aa);rw[hi]at c;rw[fH6 h];unfold bP2 cutR;rw[Q5 Aa,Q5 Aa,Q5 Aa,Q5 Aa,Q9 k,Q5 (λq=>q c)];unfold aD6;by_cases a:∃m∈s.stocks,sid m=e.id
 ·rw[Q9 a,Q9 a]
  cases d:s.stocks[bs sid s.stocks e.id]? with
  |none=>rfl
  |some m=>
   simp only;obtain⟨j,f,l⟩:=g m (QF d);by_cases b:m.program=aI
   ·rw[Q9 b,Q5 (λq=>q b)]
   ·rw[Q5 b,Q9 b]
    exact(gI5 i c (h.2.2.2.2.2.2.2.1 k) j f l).symm
 ·rw[Q5 a,Q5 a]
theorem gG5{a b:Vc}(g:within a 2000)(c:within b 2000): -200000000<=bZ a b/\bZ a b<=200000000:=by
 have e:W (0-2000)= -2000:=Ai;unfold within at g c;rw[e]at g c;have j:Sm a.1:=⟨Aa,Aa⟩
 have i:Sm a.2:=⟨Aa,Aa⟩;have d:Sm b.1:=⟨Aa,Aa⟩
 have f:Sm b.2:=⟨Aa,Aa⟩;have l:=vG j f
 have k:=vG i d;rw[iK j i d f];omega
theorem getD_in{r:Rg}(h:bR7 r)(i:Nat):within (r.getD i z0) 2000:=by
 rw[RJ]
 cases hi:r[i]? with
 |none=>
  have e:W (0-2000)= -2000:=Ai;show within z0 2000;unfold within;rw[e];exact⟨Ai,Ai,Ai,Ai⟩
 |some v=>exact h v (QF hi)
theorem fY5{r:Rg}(h:bR7 r):∀n:Nat,n<=40->-((n:Int)*200000000)<=cI8 r n/\cI8 r n<=(n:Int)*200000000
 |0,_=>⟨U0 _,U0 _⟩
 |n+1,c=>by
  obtain⟨f,b⟩:=fY5 h n Aa;obtain⟨a,d⟩:=gG5 (getD_in h n) (getD_in h ((n+1)% r.length));have e:bZ (r.getD n z0) (iU r n)=bZ (r.getD n z0) (r.getD ((n+1)% r.length) z0):=rfl;grind [bC2,w_in]
theorem fT0(r:Rg):0<=nG r/\nG r<=8000000000:=by
 unfold nG;split
 ·rename_i h
  obtain⟨_,b,a,c,_⟩:=h;have:=fY5 a r.length b;unfold zY at*;omega
 ·exact⟨U0 _,Ai⟩
theorem gJ2(l:List Rg):∀a:Int,l.length<=100->-10000000000000+(l.length:Int)*8000000000<=a->a<=10000000000000->-10000000000000<=qH a l/\qH a l<=10000000000000:=by
 induction l with
 |nil=>
  intro a c b f;have e:qH a [] =a:=rfl;rw[e];simp only[S9]at b;omega
 |cons r l d=>
  intro a c b f;have e:qH a (r::l)=qH (W (a-nG r)) l:=rfl;obtain⟨i,g⟩:=fT0 r;simp only[QM]at b c;rw[e];generalize nG r=z at*;rw[w_in Aa];exact d _ Aa Aa Aa
theorem gI4(s:Sh): -100000000000000<=uK s/\uK s<=100000000000000:=by
 unfold uK;split
 ·rename_i h
  obtain⟨a,b⟩:=fT0 s.outer;have c:(rings s).length<=7:=by unfold rings;rw[QM];have:=h.1;omega
  generalize nG s.outer=z at*;have:=gJ2 (rings s) (W (2*z)) Aa (by rw[w_in (by omega)];omega) (by rw[w_in (by omega)];omega)
  omega
 ·exact⟨Ai,Ai⟩
def fT2(x:aN):Prop:=x.isBar=true->0<=x.bar.length/\x.bar.length<=100000000000000
def Bd(s:aJ):Prop:=∀x∈s.stocks,fT2 x
theorem bd0:Bd inv0:=λx hx=>Hq
theorem fV0{x:aN}(h:fT2 x): -100000000000000<=gG x/\gG x<=100000000000000:=by
 unfold gG;split
 ·rename_i a
  have:=h a;omega
 ·exact gI4 _
theorem fZ0{x:aN}{r:Rest}(d:fT2 x)(h:iG x r=0):fT2 (dZ x r):=by
 intro a;unfold dZ at a⊢;by_cases b:x.isBar=false
 ·rw[Q9 b]at a
  split at a<;>cases a
 ·rw[Q5 b,Q9 h]
  have c:x.isBar=true:=by cases e:x.isBar with
   |true=>rfl
   |false=>exact absurd e b
  have a:=d c;unfold iG at h;rw[Q5 b]at h;grind [w_in]
theorem gI6{x:aN}{r:Rest}(a:fT2 x)(h:iG x r=0):0<=gG (dZ x r)/\gG (dZ x r)<=100000000000000:=
 ⟨(yP h (λb=>by have:=a b;unfold R6;omega)).1,(fV0 (fZ0 a h)).2⟩
theorem gI7{s g:aJ}{e:Event}(hv:Bd s)(v:Step s e g):Bd g:=by
 cases v with
 |recv x u D=>
  intro y a;rcases fH.1 a with rfl|a
  ·rcases u with⟨_,rfl,h⟩|⟨_,rfl,h⟩
   ·exact λq=>Hu
   ·exact λ_=>(by
     obtain⟨_,j,E,_⟩:=h;show 0<=e.bar.length/\e.bar.length<=100000000000000;omega)
  ·exact hv y a
 |setK k m p d c b=>
  intro y a;rcases mem_set a with rfl|a
  ·exact(hv m (fC c):fT2 m)
  ·exact hv y a
 |disc k m d c b=>exact λy a=>hv y ((kM _ _).subset a)
 |setP k m st o d c t b=>exact hv
 |cut k m d B n c b A z C=>
  intro y a;rw[aF7]at a
  have f:∀(xs l:List aN),y∈xs.foldl (putK sid) l->y∈l\/y∈xs:=by
   intro xs
   induction xs with
   |nil=>exact λl h=> .inl h
   |cons x xs i=>
    intro l h;rw[RF]at h;rcases i _ h with h|h
    ·rcases fH.1 h with rfl|h
     ·exact .inr Ae
     ·exact .inl h
    ·exact .inr (by simp[h])
  rcases f _ _ a with a|a
  ·exact hv y ((kM _ _).subset a)
  ·obtain⟨r,j,rfl,w⟩:=yU z a
   exact fZ0 (hv m (fC c)) w
structure Fine(s:aJ)(n:Nat):Prop where
 ok:Ok s n
 bd:Bd s
theorem gG6:Fine inv0 0:=⟨ok0,bd0⟩
theorem fN9{s:aJ}{e:Event}{n:Nat}(h:Fine s n)(b:(appR s e).2=0):Fine (appR s e).1 (n+more e):=by
 have a:=(aZ6 h.ok b).2;exact⟨eR5 h.ok a,gI7 h.bd a⟩
theorem gB0(s:aJ)(e:Event)(a:Sp 85 [aS e] (.lit (.bool false))):fnVC T Tryz.prog Tryz.f42 [invV s,aS e] (.tup [invV inv0,I 1]):=by
 exact zF
theorem fO2{s:aJ}{e:Event}{n:Nat}(h:Fine s n)(f:n<=900000)(p:iY e)(j:aA4 e.sheet)(i:e.cuts.length<=10000)(o:e.rests.length<=10000):
 Sp 42 [invV s,aS e] (.tup [invV (appR s e).1,I (appR s e).2]):=by
 have c:=fL6 e p j;refine zsp Tryz.func42 ?_;by_cases a:iD e;rotate_left
 ·rw[dbF a]at c
  have l:appR s e=(inv0,1):=Q5 a;rw[l];exact gB0 s e c
 ·rw[dbT a]at c
  exact fX9 s e (appR s e) (QV h.ok.lu f) i o c (λb=>gH5 a b) (QV h.ok.ls f) (QV h.ok.lp f) (λk=>(aX9 (a.2.2.2.1 k).2).1)
   (λk b=>app1 a k b) h.ok.ss (λk _=>app3 a k) (λk _=>app4 a k) h.ok.sz (λk _=>app8 a k)
   (λk b=>app5 a k h.ok.su b (λm d=>⟨(fV0 (h.bd m d)).1,(fV0 (h.bd m d)).2,λr _ g=>gI6 (h.bd m d) g⟩))
   (λk b=>app2 a k b) h.ok.sp (λk _=>app6 a k) (λk _=>app7 a k)
   a.2.2.2.2.2.2.2.2.1 a.2.2.2.2.2.2.2.2.2
theorem aQ4{e:Event}(m:bI1 e)(j:fewE e):iY e/\e.cuts.length<=12/\e.rests.length<=8/\more e<=21:=by
 obtain⟨⟨q,z,w,g,l⟩,u⟩:=j;obtain⟨⟨⟨i,A,o⟩,y,f⟩,r,v,B⟩:=m;obtain⟨k,s,t,x,n⟩:=g;have a:e.cuts.length<=12:=Aa;have c:e.rests.length<=8:=Aa
 refine⟨⟨⟨⟨i,?_,o⟩,Aa,λd b=>⟨(f d b).1,?_,(f d b).2.2⟩⟩,by have:=l.2.2;omega,Aa,Aa⟩,a,c,GZ⟩
 ·have:=n.1;omega
 ·have:=(k d b).1;omega
theorem bH2{l:List Event}(h:∀e∈l,more e<=21):moreL l<=21*l.length:=by
 induction l with
 |nil=>exact QH 0
 |cons e l a=>
  grind [QM,moreL]
structure AccE(l E:List Event):Prop where
 eq:okEv inv0 l=E
 ln:E.length<=16
 sz:∀e∈E,iY e
 mr:moreL E<=336
 ac:Acc56 inv0 E
theorem acc_of{l:List Event}(f:∀e∈l,bI1 e)(i:fewL l 16):AccE l (okEv inv0 l)/\Sp 17 [.sl (l.map aS)] (.own 93 ((okEv inv0 l).map aS)):=by
 obtain⟨d,m⟩:=i;have a:∀e∈l,iY e/\e.cuts.length<=12/\e.rests.length<=8/\more e<=21:=λe b=>aQ4 (f e b) (d e b);have o:=bH2 (λe b=>(a e b).2.2.2)
 have c:=okEv_sub l inv0;have j:(okEv inv0 l).length<=16:=by have:=c.length_le;omega
 have q:=bH2 (l:=okEv inv0 l) (λe b=>(a e (c.subset b)).2.2.2)
 exact⟨⟨rfl,j,λe b=>(a e (c.subset b)).1,Aa,acc_ok l inv0⟩,
  applied_spec l Aa Fine ⟨gG6,λs e n h g=>fN9 h g,λe b=>bB8 e (by have:=(a e b).2.1;omega) (by have:=(a e b).2.2.1;omega),
   λe b s n h k=>fO2 h k (a e b).1 (f e b).sh (by have:=(a e b).2.1;omega) (by have:=(a e b).2.2.1;omega)⟩ Aa⟩
theorem more_app(a b:List Event):moreL (a++b)=moreL a+moreL b:=E5
theorem moreL_take(E:List Event)(n:Nat):moreL (E.take n)<=moreL E:=by
 grind [more_app,RQ]
theorem bld_take{l E:List Event}(h:AccE l E)(n:Nat):Sp 12 [.sl ((E.take n).map aS)] (.tup [.own 42 ((finF inv0 [] (E.take n)).map nodeV),I (E.take n).length,I 0]):=by
 have f:=moreL_take E n;have d:=h.mr
 have b:=h.ln;have c:(E.take n).length<=E.length:=AU
 have g:=build_spec (E.take n) (λe a=>h.sz e (Ri a)) Aa Aa (fit_all _ inv0 [] 0 ok0 rfl Aa);rw[build_acc _ _ _ _ (acc_take E inv0 n h.ac),U3]at g;exact g
theorem fo_take{l E:List Event}(h:AccE l E)(n:Nat):Fo (finI inv0 (E.take n)) (finF inv0 [] (E.take n))/\Ok (finI inv0 (E.take n)) 336/\(finF inv0 [] (E.take n)).length<=336:=by
 have f:=moreL_take E n;have d:=h.mr
 obtain⟨a,b⟩:=acc_fo (E.take n) inv0 [] 0 ok0 fo0 Aa (acc_take E inv0 n h.ac);refine⟨a,b.mono Aa,?_⟩;have c:=b.lu;have e:(finF inv0 [] (E.take n)).length=(finI inv0 (E.take n)).used.length:=by rw[<-a.ids,QS]
 omega
theorem eqNd(a b c g s r q n i k:Int)(d e f l m j:ByteArray)(o t:Bool):eqT T 4 42 [I a,I b,I c,S d,S e,S f,I g,B o,I s] [I r,I q,I n,S l,S m,S j,I i,B t,I k] =
 some (andB (eqB a r) (andB (eqB b q) (andB (eqB c n) (andB (eqSB d l) (andB (eqSB e m) (andB (eqSB f j) (andB (eqB g i) (andB (eqBB o t) (andB (eqB s k) true))))))))):=Ac
theorem eqNd_i{a b c g s q p n i k:Int}{d e f l m j:ByteArray}{o r:Bool}{K:Bool->Prop}(C:a=q)(A:b=p)(w:c=n)(x:d=l)(t:e=m)(u:f=j)(v:g=i)(z:o=r)(y:s=k)(h:K true):
 aL1.match_1 (λ_=>Prop) (eqT T 4 42 [I a,I b,I c,S d,S e,S f,I g,B o,I s] [I q,I p,I n,S l,S m,S j,I i,B r,I k]) K (λ_=>False):=by
 subst C A w x t u v z y;rw[eqNd,show andB (eqB a a) _=true by simp only[dE9,aA1,eK9,cA1,beq_iff_eq,Uo]]
 exact h
def forN(E:List Event)(n:Nat):List Node:=finF inv0 [] (E.take n)
def lastN(E:List Event):Nat->List Node
 |0=> []
 |n+1=>forN E n
theorem emb_last{E:List Event}(c:moreL E<=1000000)(a:Acc56 inv0 E):∀n,n<=E.length->embR (lastN E n) (forN E n)/\(lastN E n).length<=(forN E n).length
 |0,_=>⟨by unfold lastN embR;trivial,Ro _⟩
 |n+1,h=>by
  have e:E.take (n+1)=E.take n++[E[n]] :=(List.take_append_getElem h).symm;have b:=moreL_take E (n+1)
  have:=grow_one (l:=E.take n) (e:=E[n]) (by rw[<-e];omega) (by rw[<-e];exact acc_take E inv0 (n+1) a)
  rw[<-e]at this;exact this
theorem lawGrows_spec(l:List Event)(v:Sp 10 [] (.lit (.bool true)))(J:l.length<=9223372036854775807)(t:∀e∈l,bI1 e):Sp 5 [.sl (l.map aS)] (.lit (.bool true)):=by
 refine zsp Tryz.func5 ?_;have O:=aS2 l 16 J t;by_cases G:fewL l 16;rotate_left
 ·repeat' ((conv=>whnf);first|(exfalso;contradiction)|refine zS ?_|refine zd (λhd=>?_) (λhd=>?_)|refine zl (λhlt=>?_) (λhlt=>?_)|refine zk (λhle=>?_) (λhle=>?_)|refine ze (λheq=>?_) (λheq=>?_)|refine zm (λx hx=>?_)|refine zb (λhbb=>?_) (λhbb=>?_))
  all_goals exact zE
 obtain⟨i,N⟩:=acc_of t G;generalize okEv inv0 l=E at*
 repeat' ((conv=>whnf);first|(exfalso;contradiction)|refine zS ?_|refine zd (λhd=>?_) (λhd=>?_)|refine zl (λhlt=>?_) (λhlt=>?_)|refine zk (λhle=>?_) (λhle=>?_)|refine ze (λheq=>?_) (λheq=>?_)|refine zm (λx hx=>?_)|refine zb (λhbb=>?_) (λhbb=>?_))
 all_goals conv=>whnf
 have w:=i.ln;have F:(E.map aS).length=E.length:=Ae
 refine lD (A:=Nat) (λn=>mkSt [(3, .sl (E.map aS)),(4, .sl ((lastN E n).map nodeV)),(5,I n)] [] []) (λn=>n<=E.length+1) (λn=>E.length+2-n) 0 ?_ (Ro _) (λn S=>?_)
 ·refine Le.trans (fB (k:=18) rfl (.inl rfl)) (Le.trans (le_nil _) ?_)
  exact zj
 by_cases d:n<=E.length;rotate_left
 ·repeat' ((conv=>whnf);first|omega|refine zS ?_|refine zd (λhd=>?_) (λhd=>?_)|refine zl (λhlt=>?_) (λhlt=>?_)|refine zk (λhle=>?_) (λhle=>?_)|refine ze (λheq=>?_) (λheq=>?_)|refine zm (λx hx=>?_)|refine zb (λhbb=>?_) (λhbb=>?_))
  all_goals exact zE
 obtain⟨M,T⟩:=emb_last (by have:=i.mr;omega) i.ac n d
 have m:=bld_take i n;have q:(E.take n).length=n:=AU
 rw[q]at m;have o:lastN E (n+1)=forN E n:=rfl;have r:finF inv0 [] (E.take n)=forN E n:=rfl
 rw[r]at m;have u:(forN E n).length<=336:=(fo_take i n).2.2;generalize forN E n=f at*;generalize lastN E n=L at*;have H:(f.map nodeV).length=f.length:=Ae
 have z:(L.map nodeV).length=L.length:=Ae;have s:List.drop (Int.toNat 0) (List.take (Int.toNat (n:Int)) (E.map aS))=(E.take n).map aS:=by rw[RP];simp
 rw[<-s]at m
 repeat' ((conv=>whnf);first|omega|refine zU ?_|refine zd (λhd=>?_) (λhd=>?_)|refine zl (λhlt=>?_) (λhlt=>?_)|refine zk (λhle=>?_) (λhle=>?_)|refine ze (λheq=>?_) (λheq=>?_)|refine zm (λx hx=>?_)|refine zb (λhbb=>?_) (λhbb=>?_))
 all_goals conv=>whnf
 refine eY7 ?_
 repeat' ((conv=>whnf);first|omega|refine zU ?_|refine zd (λhd=>?_) (λhd=>?_)|refine zl (λhlt=>?_) (λhlt=>?_)|refine zk (λhle=>?_) (λhle=>?_)|refine ze (λheq=>?_) (λheq=>?_)|refine zm (λx hx=>?_)|refine zb (λhbb=>?_) (λhbb=>?_))
 all_goals conv=>whnf
 refine eY7 ?_
 repeat' ((conv=>whnf);first|omega|refine zU ?_|refine zd (λhd=>?_) (λhd=>?_)|refine zl (λhlt=>?_) (λhlt=>?_)|refine zk (λhle=>?_) (λhle=>?_)|refine ze (λheq=>?_) (λheq=>?_)|refine zm (λx hx=>?_)|refine zb (λhbb=>?_) (λhbb=>?_))
 all_goals conv=>whnf
 refine eY7 ?_
 repeat' ((conv=>whnf);first|omega|refine zU ?_|refine zd (λhd=>?_) (λhd=>?_)|refine zl (λhlt=>?_) (λhlt=>?_)|refine zk (λhle=>?_) (λhle=>?_)|refine ze (λheq=>?_) (λheq=>?_)|refine zm (λx hx=>?_)|refine zb (λhbb=>?_) (λhbb=>?_))
 all_goals conv=>whnf
 refine dJ4 Unit (λ_=>mkSt [(3, .sl (E.map aS)),(4, .sl (L.map nodeV)),(5,I n),(6, .sl (f.map nodeV)),(8,I 0)] [] []) (λ_=>True) ?_ ?_
 ·repeat' ((conv=>whnf);first|omega|refine zS ?_|refine zd (λhd=>?_) (λhd=>?_)|refine zl (λhlt=>?_) (λhlt=>?_)|refine zk (λhle=>?_) (λhle=>?_)|refine ze (λheq=>?_) (λheq=>?_)|refine zm (λx hx=>?_)|refine zb (λhbb=>?_) (λhbb=>?_))
  all_goals conv=>whnf
  refine⟨(),Le.trans (fB (k:=29) rfl (.inl rfl)) ?_,trivial⟩;exact zj
 intro _ _;all_goals conv=>whnf
 refine eY7 ?_
 repeat' ((conv=>whnf);first|omega|refine zU ?_|refine zd (λhd=>?_) (λhd=>?_)|refine zl (λhlt=>?_) (λhlt=>?_)|refine zk (λhle=>?_) (λhle=>?_)|refine ze (λheq=>?_) (λheq=>?_)|refine zm (λx hx=>?_)|refine zb (λhbb=>?_) (λhbb=>?_))
 all_goals conv=>whnf
 refine eY7 ?_
 repeat' ((conv=>whnf);first|omega|refine zU ?_|refine zd (λhd=>?_) (λhd=>?_)|refine zl (λhlt=>?_) (λhlt=>?_)|refine zk (λhle=>?_) (λhle=>?_)|refine ze (λheq=>?_) (λheq=>?_)|refine zm (λx hx=>?_)|refine zb (λhbb=>?_) (λhbb=>?_))
 all_goals conv=>whnf
 refine eY7 ?_
 repeat' ((conv=>whnf);first|omega|refine zU ?_|refine zd (λhd=>?_) (λhd=>?_)|refine zl (λhlt=>?_) (λhlt=>?_)|refine zk (λhle=>?_) (λhle=>?_)|refine ze (λheq=>?_) (λheq=>?_)|refine zm (λx hx=>?_)|refine zb (λhbb=>?_) (λhbb=>?_))
 all_goals conv=>whnf
 refine dJ4 Unit (λ_=>mkSt [(3, .sl (E.map aS)),(4, .sl (L.map nodeV)),(5,I n),(6, .sl (f.map nodeV)),(9,I L.length)] [] []) (λ_=>True) ?_ ?_
 ·repeat' ((conv=>whnf);first|omega|refine zS ?_|refine zd (λhd=>?_) (λhd=>?_)|refine zl (λhlt=>?_) (λhlt=>?_)|refine zk (λhle=>?_) (λhle=>?_)|refine ze (λheq=>?_) (λheq=>?_)|refine zm (λx hx=>?_)|refine zb (λhbb=>?_) (λhbb=>?_))
  refine loop_4 (A:=List Node) (B:=List Node) (C:=List Node) (D:=List Node) (λD R P Q=>mkSt [(3, .sl (E.map aS)),(4, .sl (L.map nodeV)),(5,I n),(6, .sl (f.map nodeV)),(9,I P.length),(10,I D.length)] [] []) (λD R P Q=>f=D++R/\L=P++Q/\embR Q R) (λD R P Q=>R.length) [] f [] L ?_ ⟨rfl,rfl,M⟩ (λD R P Q hp=>?_)
  ·exact zj
  obtain⟨hp,hq,g⟩:=hp
  cases R with
  |nil=>
   have K:Q=[] :=by
    cases Q with
    |nil=>rfl
    |cons c Q=>unfold embR at g;exact g.elim
   subst K;have y:f.length=D.length:=Ad;exact ND
  |cons x R=>
   have y:=aO hp
   cases Q with
   |nil=>
    exact ND
   |cons c Q=>
    have h2:=aO hq;unfold embR at g;by_cases a:x.id=c.id
    ·rw[Q9 a]at g
     obtain⟨b,j⟩:=g
     repeat' ((conv=>whnf);first|omega|(exfalso;exact absurd a Ag)|refine zS ?_|refine zd (λhd=>?_) (λhd=>?_)|refine zl (λhlt=>?_) (λhlt=>?_)|refine zk (λhle=>?_) (λhle=>?_)|refine ze (λheq=>?_) (λheq=>?_)|refine zm (λx hx=>?_)|refine zb (λhbb=>?_) (λhbb=>?_))
     all_goals conv=>whnf
     ·have hx:x=c:=by
       unfold normN at b;rwa [Q9 (by simpa using hbb)]at b
      subst hx;refine eqNd_i rfl rfl rfl rfl rfl rfl rfl rfl rfl ?_
      repeat' ((conv=>whnf);first|omega|refine zS ?_|refine zd (λhd=>?_) (λhd=>?_)|refine zl (λhlt=>?_) (λhlt=>?_)|refine zk (λhle=>?_) (λhle=>?_)|refine ze (λheq=>?_) (λheq=>?_)|refine zm (λx hx=>?_)|refine zb (λhbb=>?_) (λhbb=>?_))
      all_goals conv=>whnf
      refine⟨(D++[x],R,P++[x],Q),?_,⟨Ad,Ap,j⟩,Ae⟩;exact MQ
     ·have hx: {x with gone:=false,scrap:=0}=c:=by
       unfold normN at b;rwa [Q5 (by simpa using hbb)]at b
      subst hx;refine eqNd_i rfl rfl rfl rfl rfl rfl rfl rfl rfl ?_
      repeat' ((conv=>whnf);first|omega|refine zS ?_|refine zd (λhd=>?_) (λhd=>?_)|refine zl (λhlt=>?_) (λhlt=>?_)|refine zk (λhle=>?_) (λhle=>?_)|refine ze (λheq=>?_) (λheq=>?_)|refine zm (λx hx=>?_)|refine zb (λhbb=>?_) (λhbb=>?_))
      all_goals conv=>whnf
      refine⟨(D++[x],R,P++[{x with gone:=false,scrap:=0}],Q),?_,⟨Ad,Ap,j⟩,Ae⟩;exact MQ
    ·rw[Q5 a]at g
     repeat' ((conv=>whnf);first|omega|(exfalso;exact absurd Ag a)|refine zS ?_|refine zd (λhd=>?_) (λhd=>?_)|refine zl (λhlt=>?_) (λhlt=>?_)|refine zk (λhle=>?_) (λhle=>?_)|refine ze (λheq=>?_) (λheq=>?_)|refine zm (λx hx=>?_)|refine zb (λhbb=>?_) (λhbb=>?_))
     all_goals conv=>whnf
     refine⟨(D++[x],R,P,c::Q),?_,⟨Ad,hq,g⟩,Ae⟩;exact MQ
 intro _ _
 repeat' ((conv=>whnf);first|omega|refine zS ?_|refine zd (λhd=>?_) (λhd=>?_)|refine zl (λhlt=>?_) (λhlt=>?_)|refine zk (λhle=>?_) (λhle=>?_)|refine ze (λheq=>?_) (λheq=>?_)|refine zm (λx hx=>?_)|refine zb (λhbb=>?_) (λhbb=>?_))
 all_goals conv=>whnf
 refine⟨n+1,?_,Aa,Aa⟩;rw[o];simp only[Int.natCast_add,Int.cast_ofNat_Int];exact zj
end Go.Proofs.Led
