/- Lemmas. -/
import Derived.Test.YtecbpikbjfihmaaGreatDoorB9
set_option linter.all false
set_option autoImplicit true
set_option relaxedAutoImplicit true
set_option maxRecDepth 100000
set_option maxHeartbeats 8000000
noncomputable section
namespace Go.Proofs.Led
open Go Go.Proofs Go.Ab Tryz
def gE5 b v(a:b.1.1<=b.2.1)(c:b.1.2<=b.2.2):(dQ (gU b v).1/\dQ (gU b v).2)↔(dQ b.1/\dQ b.2)/\dQ v:=by
 unfold dQ gU;simp only;constructor;grind;omega
def fS9:∀(l:List Vc)  b,b.1.1<=b.2.1->b.1.2<=b.2.2->((dQ (l.foldl gU b).1/\dQ (l.foldl gU b).2)↔(dQ b.1/\dQ b.2)/\∀v∈l,dQ v)
 | [],b,_,_=>⟨λh=>⟨h,λv hv=>by cases hv⟩,λh=>h.1⟩
 |v::l,b,a,c=>by
  rw[RV,fS9 l (gU b v) (by unfold gU;simp only;omega) (by unfold gU;simp only;omega),gE5 b v a c];grind
def fX1(h:bG s):(dQ (boxS s).1.1/\dQ (boxS s).1.2)↔∀v∈s.outer,dQ v:=by
 have a:dM s.outer:=h.2.1 _ AU;rw[eG7 h,dX3 a];have b:=a.1;generalize s.outer=r at*;cases r with
 |nil=>exact absurd b Ad
 |cons v l=>
  show dQ (((v::l).foldl gU (v,v))).1/\dQ (((v::l).foldl gU (v,v))).2↔_;rw[fS9 (v::l) (v,v) (TB _) (TB _)];simp_all
def fJ2 s(b:Fits s):Sp 121 [shV s] (DB (jV s)):=by
 by_cases h:bG s;exact fE6 s (iT h);rw[dbF (λq=>h q.1)];have a:=fQ3 s b;rw[dbF h]at a;refine zsp func121 ?_;repeat' ((conv=>whnf);first|(exfalso;contradiction)|refine zc a ?_|refine zS ?_|refine zm (λx c=>?_)|refine zT ?_ ?_<;>intro _|fail)
 all_goals exact zE
def fP7 s(S:tN s):Sp 79 [zJ s] (DB (dB s)):=by
 refine zsp func79 ?_;let⟨J,T,K⟩:=S;have N:=fK9 s.id s.grade s.heat;have y:=fJ2 s.shape J;by_cases j:jV s.shape;rotate_left
 ·rw[dbF (λq=>j q.2.2.2.1)]
  rw[dbF j]at y;repeat' ((conv=>whnf);first|refine zc N ?_|refine zc y ?_|refine zS ?_|refine zT ?_ ?_<;>intro _|fail)
  all_goals exact zE
 have u:=iT j.1;have L:=j.1;rw[dbT j]at y
 have m:dB s↔kZ s.id s.grade s.heat/\0<=s.grain/\s.grain<=2/\jV s.shape/\s.defects.length<=6/\(dQ (boxS s.shape).1.1/\dQ (boxS s.shape).1.2)/\∀d∈s.defects,qQ s.shape d:=
  ⟨λ⟨a,b,c,d,e,f,g,h⟩=>⟨a,b,c,d,e,⟨f,g⟩,h⟩,λ⟨a,b,c,d,e,⟨f,g⟩,h⟩=>⟨a,b,c,d,e,f,g,h⟩⟩
 have F:=fX1 L;have U:(s.defects.map shV).length=s.defects.length:=Ad;have Q:(s.shape.outer.map vcV).length=s.shape.outer.length:=Ad;have V:=u.1;have G:∀d,qQ s.shape d↔jV d/\pO s.shape d=0/\lI s.shape d:=λd=>RU;generalize dB s=P at*;generalize kZ s.id s.grade s.heat=X at*;generalize (dQ (boxS s.shape).1.1/\dQ (boxS s.shape).1.2)=Y at*;repeat' ((conv=>whnf);first|refine zc N ?_|refine zc y ?_|refine zS ?_|refine zT ?_ ?_<;>intro _|fail)
 all_goals conv=>whnf
 all_goals first
  |exact aA (aC (λh=>absurd (m.1 h).1 Ag))
  |exact aA (aC (λh=>by have:=(m.1 h).2.1;have:=(m.1 h).2.2.1;have:=(m.1 h).2.2.2.2.1;omega))
  |skip
 have C:P↔(∀v∈s.shape.outer,dQ v)/\∀d∈s.defects,qQ s.shape d:=⟨λh=>⟨F.1 (m.1 h).2.2.2.2.2.1,(m.1 h).2.2.2.2.2.2⟩,λh=>m.2 ⟨Ag,Aa,Aa,Ag,Aa,F.2 h.1,h.2⟩⟩;clear m F;refine aU (A:=List Vc) (B:=List Vc) (λD R=>mkSt [(1, .box 1 0),(3,I D.length)] [(1,aA7 s)] []) (λD R=>s.shape.outer=D++R/\∀v∈D,dQ v) (λD R=>R.length) [] s.shape.outer ?_ ⟨rfl,Ad⟩ (λD R hp=>?_);exact zj;let⟨hp,hD⟩:=hp;cases R with
 |cons v R=>
  have k:=aO hp;have M:v∈s.shape.outer:=Ae;have E:=fF5 v;have r:dQ v->∀z∈D++[v],dQ z:=λh z hz=>Jk;have t:¬dQ v->¬P:=λh q=>h ((C.1 q).1 v M);generalize dQ v=W at*;repeat' ((conv=>whnf);first|omega|refine aB (l:=s.shape.outer) Aa ?_|refine aF (l:=s.shape.outer) (A:=D) (x:=v) (B:=R) hp Aa ?_|refine zc E ?_|refine zS ?_|refine zT ?_ ?_<;>intro _|fail)
  all_goals conv=>whnf
  all_goals first
   |exact aA (aC (t Ag))
   |skip
  refine⟨(D++[v],R),?_,⟨Ae,r Ag⟩,Ad⟩;exact Nh
 |nil=>
 have k:s.shape.outer.length=D.length:=Ae;have n:P↔∀d∈s.defects,qQ s.shape d:=⟨λh=>(C.1 h).2,λh=>C.2 ⟨λv hv=>Gf,h⟩⟩;clear C;repeat' ((conv=>whnf);first|omega|refine zS ?_|refine zT ?_ ?_<;>intro _|fail)
 refine aU (A:=List Sh) (B:=List Sh) (λD R=>mkSt [(1, .box 1 0),(4,I D.length)] [(1,aA7 s)] []) (λD R=>s.defects=D++R/\∀d∈D,qQ s.shape d) (λD R=>R.length) [] s.defects ?_ ⟨rfl,Ad⟩ (λD R hp=>?_);exact zj;let⟨hp,hD⟩:=hp;cases R with
 |nil=>
  have k:s.defects.length=D.length:=Ae;repeat' ((conv=>whnf);first|omega|refine zS ?_|refine zT ?_ ?_<;>intro _|fail)
  all_goals conv=>whnf
  refine aA (fE (n.2 λd h=>?_));rw[hp,Rq]at h;exact hD d h
 |cons d R=>
  have k:=aO hp;have o:d∈s.defects:=Ae;have w:=fJ2 d (K d o);have H:=G d;by_cases i:jV d;rotate_left
  ·rw[dbF i]at w
   repeat' ((conv=>whnf);first|omega|refine aB (l:=s.defects) Aa ?_|refine aF (l:=s.defects) (A:=D) (x:=d) (B:=R) hp Aa ?_|refine zc w ?_|refine zS ?_|refine zT ?_ ?_<;>intro _|fail)
   all_goals conv=>whnf
   exact aA (aC (λh=>i (H.1 (n.1 h d o)).1))
  rw[dbT i]at w;have E:=fG0 s.shape d u (iT i.1);have O:jV d->lI s.shape d->pO s.shape d=0:=λ_ h=>QU ⟨h.1,h.2.1⟩;generalize pO s.shape d=Z at*;generalize lI s.shape d=q3 at*;repeat' ((conv=>whnf);first|omega|refine aB (l:=s.defects) Aa ?_|refine aF (l:=s.defects) (A:=D) (x:=d) (B:=R) hp Aa ?_|refine zc E ?_|refine zc w ?_|refine zS ?_|refine zT ?_ ?_<;>intro _|fail)
  all_goals conv=>whnf
  all_goals first
   |exact aA (aC (λh=>absurd (H.1 (n.1 h d o)).2.2 Ag))
   |skip
  refine⟨(D++[d],R),?_,⟨Ae,λz hz=>?_⟩,Ad⟩;exact IW;rcases Rh.1 hz with hz|hz;exact hD z hz;rw[Ri.1 hz];exact H.2 ⟨i,O i Ag,Ag⟩
def fS4 s(a:lK s):Sp 79 [zJ s] (DB (dB s)):=fP7 s (fits_sized a)
def fR1(h:RB p.1 p.2 q.1 q.2):sV p q=rS p.1 p.2 q.1 q.2:=by
 let⟨a,b,c,d,e,f⟩:=h;unfold sV;rw[Q9];rfl;rintro(h|h|h|h);omega;omega;exact h (qN Aa Aa Aa Aa Aa);exact h (qN Aa Aa Aa Aa Aa)
def fO0(h:RB (x.1.1-v.1) (x.1.2-v.2) (x.2.1-v.1) (x.2.2-v.2)):sV (vsub x.1 v) (vsub x.2 v)=jT x v:=by
 have a:=h;rw[cL4 h];let⟨b,c,d,e,f,g⟩:=h;rw[kN ⟨Aa,Aa⟩ ⟨Aa,Aa⟩,kN ⟨Aa,Aa⟩ ⟨Aa,Aa⟩];exact fR1 a
def fG1(s:jL)(b:Bx)(id:Int)(r:Sh)(X:List Sh)(n:Int):St:=match X with
 | [] =>mkSt [(3, .box 3 0),(4, .box 4 0),(6, .box 6 0),(7,I 0),(10, .box 10 0),(11,I n)]
   [(3,aA7 s),(4,(bxV b).cells),(6,[I 0,S aI,S aI,I 0,nilV,nilV,nilV]),(10,[I id,S s.grade,S s.heat,I s.grain,rgV r.outer, .sl (r.holes.map rgV),nilV])] []
 |x::X=>mkSt [(3, .box 3 0),(4, .box 4 0),(6, .box 6 0),(7,I 0),(10, .box 10 0),(11,I n)]
  [(3,aA7 s),(4,(bxV b).cells),(6,[I 0,S aI,S aI,I 0,nilV,nilV,nilV]),(10,[I id,S s.grade,S s.heat,I s.grain,rgV r.outer, .sl (r.holes.map rgV), .arr 156 X.length])] [(156,⟨X.length, .own,49,(x::X).map shV⟩)]
def fP0 s b id(L:lK s):Sp 129 [zJ s,bxV b,I id] (.tup [zJ (remS s b id),I (remE s b id)]):=by
 refine zsp func129 ?_;have K:=fS4 s L;have O:=fF5 b.1;have P:=fF5 b.2;have Q:=fH3 b.1 b.2;have S:=fG0 s.shape (sV b.1 b.2) L.1 (cW6 b.1 b.2);have h8:=fD b.2 b.1;have Z:=fH3 (0,0) (vsub b.2 b.1);have F:nC id↔1<=id/\id<=1000000:=RU;have hw:xH b↔b.1.1<b.2.1/\b.1.2<b.2.2:=RU;by_cases c1:dB s;rotate_left
 ·have e1:remE s b id=1:=by unfold remE;rw[QU c1]
  have t:remS s b id=dN:=Bl;rw[e1,t];repeat' ((conv=>whnf);first|(exfalso;contradiction)|refine zc K ?_|refine zS ?_|refine zd (λi=>?_) (λi=>?_))
  all_goals exact zE
 by_cases N:nC id/\xH b/\dQ b.1/\dQ b.2;rotate_left
 ·have e1:remE s b id=2:=by unfold remE;rw[Q9 (λh=>h c1),QU N]
  have t:remS s b id=dN:=Bl;rw[e1,t];generalize dQ b.1=o1 at*;generalize dQ b.2=o2 at*;repeat' ((conv=>whnf);first|(exfalso;contradiction)|(exfalso;exact N ⟨F.2 ⟨Aa,Aa⟩,hw.2 ⟨Aa,Aa⟩,Ag,Ag⟩)|refine zc K ?_|refine zc O ?_|refine zc P ?_|refine zS ?_|refine zd (λi=>?_) (λi=>?_)|refine zl (λhlt=>?_) (λhlt=>?_)|refine zk (λc=>?_) (λc=>?_))
  all_goals exact zE
 obtain⟨c21,c22,c23,c24⟩:=N;have aa:=F.1 c21;have ag:=hw.1 c22;have ad:0<=min b.1.1 b.1.2/\max b.1.1 b.1.2<=1900:=c23;have ae:0<=min b.2.1 b.2.2/\max b.2.1 b.2.2<=1900:=c24
 have e0:sV b.1 b.2=jT b (0,0):=by
  rw[fR1 (p:=b.1) (q:=b.2) ⟨Aa,Aa,Aa,Aa,Aa,Aa⟩,cL4 (x:=b) (v:=(0,0)) ⟨Aj,Aj,Aj,Aj,Aj,Aj⟩];simp only[Int.sub_zero]
 rw[e0]at Q S;by_cases c3:lI s.shape (jT b (0,0));rotate_left
 ·have e1:remE s b id=13:=by unfold remE;rw[Q9 (λh=>h c1),Q9 (λh=>h ⟨c21,c22,c23,c24⟩),QU c3]
  have t:remS s b id=dN:=Bl;rw[e1,t];repeat' ((conv=>whnf);first|(exfalso;contradiction)|omega|refine zc K ?_|refine zc O ?_|refine zc P ?_|refine zc Q ?_|refine zc S ?_|refine zS ?_|refine zd (λi=>?_) (λi=>?_)|refine zl (λhlt=>?_) (λhlt=>?_)|refine zk (λc=>?_) (λc=>?_))
  all_goals exact zE
 have e1:remE s b id=0:=BX;have t:remS s b id=⟨id,s.grade,s.heat,s.grain,jT b b.1,kJ b s.defects⟩:=by unfold remS;rw[QU e1]
 have e3:sV (0,0) (vsub b.2 b.1)=jT b b.1:=by
  rw[<-fO0 (x:=b) (v:=b.1) ⟨Aa,Aa,Aa,Aa,Aa,Aa⟩]
  have e:vsub b.1 b.1=(0,0):=by
   rw[kN ⟨Aa,Aa⟩ ⟨Aa,Aa⟩,Int.sub_self,Int.sub_self]
  rw[e]
 rw[e3]at Z;rw[e1,t];have hl:(s.defects.map shV).length=s.defects.length:=Ad
 have V:∀d:Sh,xH (nV (boxS d).1 b)->sV (vsub (nV (boxS d).1 b).1 b.1) (vsub (nV (boxS d).1 b).2 b.1)=jT (nV (boxS d).1 b) b.1:=λd i=>by
  have E:(nV (boxS d).1 b).1.1< (nV (boxS d).1 b).2.1/\(nV (boxS d).1 b).1.2< (nV (boxS d).1 b).2.2:=i;refine fO0 ?_;unfold nV at E⊢;simp only at E⊢;exact⟨Aa,Aa,Aa,Aa,Aa,Aa⟩
 generalize jT b b.1=f at*;generalize jT b (0,0)=r0 at*;generalize af:vsub b.2 b.1=vb at*;repeat' ((conv=>whnf);first|(exfalso;contradiction)|omega|refine cC0 [(3,3),(4,4),(2,999),(72,3),(74,3),(76,3),(79,4),(81,4),(10,10)] Af Ac ?_|refine zc K ?_|refine zc O ?_|refine zc P ?_|refine zc Q ?_|refine zc S ?_|refine zc h8 ?_|refine zc Z ?_|refine zS ?_|refine zd (λi=>?_) (λi=>?_)|refine zl (λhlt=>?_) (λhlt=>?_)|refine zk (λc=>?_) (λc=>?_))
 all_goals conv=>whnf
 refine aU (A:=List Sh) (B:=List Sh) (λD R=>fG1 s b id f (kJ b D) D.length) (λD R=>s.defects=D++R) (λD R=>R.length) [] s.defects ?_ rfl (λD R hp=>?_);show Le T _ (fG1 s b id f [] 0);exact zj;have ab:=yK b D;have ac:=L.2.1;cases R with
 |nil=>
  have e:s.defects=D:=Ae;have G:s.defects.length=D.length:=Io;rw[e];generalize kJ b D=X at*;cases X with
  |nil=>exact KR
  |cons x X=>exact KR
 |cons d R=>
  have G:=aO hp;have U:d∈s.defects:=Ae;have M:=fX2 d (L.2.2 d U);have a:=bX0 b D d;have j:((D++[d]).length:Int)=(D.length:Int)+1:=Ad;have g:aK2 b d=(open Classical in if xH (nV (boxS d).1 b)then [jT (nV (boxS d).1 b) b.1]else []):=rfl;have hq:=V d;have C:nV (boxS d).1 b=((max (boxS d).1.1.1 b.1.1,max (boxS d).1.1.2 b.1.2),(min (boxS d).1.2.1 b.2.1,min (boxS d).1.2.2 b.2.2)):=rfl;generalize kJ b D=X at*;generalize nV (boxS d).1 b=cb at*;generalize (boxS d).1=J at*;simp only[<-mG,<-lH]at C;subst C;generalize k:maxI J.1.1 b.1.1=u at*;generalize m:maxI J.1.2 b.1.2=w at*;generalize n:minI J.2.1 b.2.1=y at*;generalize o:minI J.2.2 b.2.2=z at*;have k2:=fD (u,w) b.1;have k3:=fD (y,z) b.1;have Y:=fH3 (vsub (u,w) b.1) (vsub (y,z) b.1);by_cases H:u<y/\w<z
  ·have r:xH ((u,w),(y,z)):=H
   rw[QU r]at g;rw[g]at a;rw[hq r]at Y;generalize jT ((u,w),(y,z)) b.1=rr at*;generalize vsub (u,w) b.1=u1 at*;generalize vsub (y,z) b.1=u2 at*;cases X with
   |nil=>
    repeat' ((conv=>whnf);first|omega|refine cC0 [(4,4),(10,10),(14,14),(15,15),(147,4),(151,4),(144,10),(157,10)] Af Ac ?_|refine aB (l:=s.defects) Aa ?_|refine aF (l:=s.defects) (A:=D) (x:=d) (B:=R) hp Aa ?_|rw[k]|rw[m]|rw[n]|rw[o]|refine zc M ?_|refine zc k2 ?_|refine zc k3 ?_|refine zc Y ?_|refine gX (QV rfl) (dA rfl) (QV rfl) ?_|refine zS ?_|refine zl (λhlt=>?_) (λhlt=>?_))
    all_goals conv=>whnf
    refine⟨(D++[d],R),?_,Ae,Ad⟩;show Le T _ (fG1 s b id f (kJ b (D++[d])) (D++[d]).length);rw[a,j];show Le T _ (fG1 s b id f [rr] _);exact zj
   |cons x X=>
    have W:(x::X).length=X.length+1:=rfl;repeat' ((conv=>whnf);first|omega|refine cC0 [(4,4),(10,10),(14,14),(15,15),(147,4),(151,4),(144,10),(157,10)] Af Ac ?_|refine aB (l:=s.defects) Aa ?_|refine aF (l:=s.defects) (A:=D) (x:=d) (B:=R) hp Aa ?_|rw[k]|rw[m]|rw[n]|rw[o]|refine zc M ?_|refine zc k2 ?_|refine zc k3 ?_|refine zc Y ?_|refine iH rfl (.inl rfl) rfl (QV rfl) (dA rfl) (show((x::X).map shV).length+1<=1000000000 from D9) ?_|refine zS ?_|refine zl (λhlt=>?_) (λhlt=>?_))
    all_goals conv=>whnf
    refine⟨(D++[d],R),?_,Ae,Ad⟩;show Le T _ (fG1 s b id f (kJ b (D++[d])) (D++[d]).length);rw[a,j];show Le T _ (fG1 s b id f (x::(X++[rr])) _);unfold fG1;exact Nw
  have r:¬xH ((u,w),(y,z)):=H;rw[Q9 r]at g;rw[g,Rq]at a;cases X with
  |nil=>
   repeat' ((conv=>whnf);first|omega|refine aB (l:=s.defects) Aa ?_|refine aF (l:=s.defects) (A:=D) (x:=d) (B:=R) hp Aa ?_|rw[k]|rw[m]|rw[n]|rw[o]|refine zc M ?_|refine zS ?_|refine zl (λhlt=>?_) (λhlt=>?_))
   all_goals conv=>whnf
   all_goals (refine⟨(D++[d],R),?_,Ae,Ad⟩)
   all_goals (show Le T _ (fG1 s b id f (kJ b (D++[d])) (D++[d]).length))
   all_goals (rw[a,j])
   all_goals (show Le T _ (fG1 s b id f [] _))
   all_goals
    exact zj
  |cons x X=>
   have W:(x::X).length=X.length+1:=rfl;repeat' ((conv=>whnf);first|omega|refine aB (l:=s.defects) Aa ?_|refine aF (l:=s.defects) (A:=D) (x:=d) (B:=R) hp Aa ?_|rw[k]|rw[m]|rw[n]|rw[o]|refine zc M ?_|refine zS ?_|refine zl (λhlt=>?_) (λhlt=>?_))
   all_goals conv=>whnf
   all_goals (refine⟨(D++[d],R),?_,Ae,Ad⟩)
   all_goals (show Le T _ (fG1 s b id f (kJ b (D++[d])) (D++[d]).length))
   all_goals (rw[a,j])
   all_goals (show Le T _ (fG1 s b id f (x::X) _))
   all_goals
    exact zj
def dW8(k:Len6 a):fnVC T Tryz.prog Tryz.f16 [.sl (a.map I), .sl (b.map I)] (DB (a=b)):=by
 have f:(a.map I).length=a.length:=Ad;have g:(b.map I).length=b.length:=Ad;generalize hP:(a=b)=P;have hr:P↔a=b:=GZ;clear hP;repeat' ((conv=>whnf);first|refine zS ?_|refine zT ?_ ?_<;>intro _|fail)
 all_goals conv=>whnf
 all_goals first
  |exact aA (aC (λh=>by have:=RI List.length (hr.1 h);omega))
  |skip
 refine oU (A:=List Int) (B:=List Int) (C:=List Int) (λD R S=>mkSt [(0, .sl (a.map I)),(1, .sl (b.map I)),(5,I D.length)] [] []) (λD R S=>a=D++R/\b=D++S) (λD R S=>R.length) [] a b ?_ ⟨rfl,rfl⟩ (λD R S hp=>?_);exact zj;obtain⟨hp,hq⟩:=hp;cases R with
 |nil=>exact IQ
 |cons x R=>
  cases S with
  |nil=>exact JF
  |cons y S=>
   have hlen:=aO hp;have d:=aO hq;have e:x≠y->¬P:=λh hP=>Ji;have i:x∈a:=Ae;have j:y∈b:=Au
   skip
   repeat' ((conv=>whnf);first|omega|refine eV7 (λc=>?_) (λc=>?_)|refine zS ?_|refine zT ?_ ?_<;>intro _|fail)
   all_goals conv=>whnf
   all_goals first
    |exact aA (aC (e AX))
    |skip
   exact NH
def cY1(c:Len6 a):Sp 16 [.sl (a.map I), .sl (b.map I)] (DB (a=b)):=zsp func16 (dW8 c)
def eK4(k:Len6 a):fnVC T Tryz.prog Tryz.f213 [.sl (a.map vcV), .sl (b.map vcV)] (DB (a=b)):=by
 have f:(a.map vcV).length=a.length:=Ad;have g:(b.map vcV).length=b.length:=Ad;generalize hP:(a=b)=P;have hr:P↔a=b:=GZ;clear hP;repeat' ((conv=>whnf);first|refine zS ?_|refine zT ?_ ?_<;>intro _|fail)
 all_goals conv=>whnf
 all_goals first
  |exact aA (aC (λh=>by have:=RI List.length (hr.1 h);omega))
  |skip
 refine oU (A:=List Vc) (B:=List Vc) (C:=List Vc) (λD R S=>mkSt [(0, .sl (a.map vcV)),(1, .sl (b.map vcV)),(5,I D.length)] [] []) (λD R S=>a=D++R/\b=D++S) (λD R S=>R.length) [] a b ?_ ⟨rfl,rfl⟩ (λD R S hp=>?_);exact zj;obtain⟨hp,hq⟩:=hp;cases R with
 |nil=>exact IQ
 |cons x R=>
  cases S with
  |nil=>exact JF
  |cons y S=>
   have hlen:=aO hp;have d:=aO hq;have e:x≠y->¬P:=λh hP=>Ji;have i:x∈a:=Ae;have j:y∈b:=Au
   skip
   repeat' ((conv=>whnf);first|omega|refine aT1 ?_|refine aB4 (λc=>?_) (λc=>?_)|refine zS ?_|refine zT ?_ ?_<;>intro _|fail)
   all_goals conv=>whnf
   all_goals first
    |exact aA (aC (e AX))
    |skip
   exact NH
def bK2(c:Len6 a):Sp 213 [.sl (a.map vcV), .sl (b.map vcV)] (DB (a=b)):=zsp func213 (eK4 c)
def dK7(k:Len6 a):fnVC T Tryz.prog Tryz.f176 [.sl (a.map ivV), .sl (b.map ivV)] (DB (a=b)):=by
 have f:(a.map ivV).length=a.length:=Ad;have g:(b.map ivV).length=b.length:=Ad;generalize hP:(a=b)=P;have hr:P↔a=b:=GZ;clear hP;repeat' ((conv=>whnf);first|refine zS ?_|refine zT ?_ ?_<;>intro _|fail)
 all_goals conv=>whnf
 all_goals first
  |exact aA (aC (λh=>by have:=RI List.length (hr.1 h);omega))
  |skip
 refine oU (A:=List Iv) (B:=List Iv) (C:=List Iv) (λD R S=>mkSt [(0, .sl (a.map ivV)),(1, .sl (b.map ivV)),(5,I D.length)] [] []) (λD R S=>a=D++R/\b=D++S) (λD R S=>R.length) [] a b ?_ ⟨rfl,rfl⟩ (λD R S hp=>?_);exact zj;obtain⟨hp,hq⟩:=hp;cases R with
 |nil=>exact IQ
 |cons x R=>
  cases S with
  |nil=>exact JF
  |cons y S=>
   have hlen:=aO hp;have d:=aO hq;have e:x≠y->¬P:=λh hP=>Ji;have i:x∈a:=Ae;have j:y∈b:=Au
   skip
   repeat' ((conv=>whnf);first|omega|refine aB4 (λc=>?_) (λc=>?_)|refine zS ?_|refine zT ?_ ?_<;>intro _|fail)
   all_goals conv=>whnf
   all_goals first
    |exact aA (aC (e AX))
    |skip
   exact NH
def cE7(c:Len6 a):Sp 176 [.sl (a.map ivV), .sl (b.map ivV)] (DB (a=b)):=zsp func176 (dK7 c)
def dO2{a b:List Rg}(l:Len6 a)(g:∀x∈a,Len6 x):fnVC T Tryz.prog Tryz.f214 [.sl (a.map rgV), .sl (b.map rgV)] (DB (a=b)):=by
 have i:(a.map rgV).length=a.length:=Ad;have j:(b.map rgV).length=b.length:=Ad;generalize hP:(a=b)=P;have hr:P↔a=b:=GZ;clear hP;repeat' ((conv=>whnf);first|refine zS ?_|refine zT ?_ ?_<;>intro _|fail)
 all_goals conv=>whnf
 all_goals first
  |exact aA (aC (λh=>by have:=RI List.length (hr.1 h);omega))
  |skip
 refine oU (A:=List Rg) (B:=List Rg) (C:=List Rg) (λD R S=>mkSt [(0, .sl (a.map rgV)),(1, .sl (b.map rgV)),(5,I D.length)] [] []) (λD R S=>a=D++R/\b=D++S) (λD R S=>R.length) [] a b ?_ ⟨rfl,rfl⟩ (λD R S hp=>?_);exact zj;obtain⟨hp,hq⟩:=hp;cases R with
 |nil=>exact IQ
 |cons x R=>
  cases S with
  |nil=>exact JF
  |cons y S=>
   have hlen:=aO hp;have d:=aO hq;have e:x≠y->¬P:=λh hP=>Ji;have f:x∈a:=Ae;have k:y∈b:=Au;have c:=g x f;repeat' ((conv=>whnf);first|omega|refine zc (bK2 (b:=y) c) ?_|refine zS ?_|refine zT ?_ ?_<;>intro _|fail)
   all_goals conv=>whnf
   all_goals first
    |exact aA (aC (e AX))
    |skip
   exact NH
def cI7{a b:List Rg}(c:Len6 a)(d:∀x∈a,Len6 x):Sp 214 [.sl (a.map rgV), .sl (b.map rgV)] (DB (a=b)):=zsp func214 (dO2 c d)
def fC2{a b:Sh}:a=b↔a.outer=b.outer/\a.holes=b.holes:=by
 constructor;rintro rfl;exact⟨rfl,rfl⟩;let⟨o,h⟩:=a;let⟨f,e⟩:=b;rintro⟨c,d⟩;simp only at c d;rw[c,d]
def aW1 a b(f:aV5 a):Sp 171 [shV a,shV b] (DB (a=b)):=by
 refine zsp func171 ?_;let⟨c,d,e⟩:=f;have g:=bK2 (b:=b.outer) c;have i:=cI7 (b:=b.holes) d e;have j:a=b↔a.outer=b.outer/\a.holes=b.holes:=fC2;generalize (a=b)=P at*;generalize (a.outer=b.outer)=k at*;generalize (a.holes=b.holes)=l at*;repeat' ((conv=>whnf);first|refine zS ?_|refine zT ?_ ?_<;>intro _|fail)
 all_goals conv=>whnf
 all_goals first
  |exact aA (fQ Bg)
  |exact aA (aC Bg)
def dB4(l:Len6 a)(g:∀x∈a,aV5 x):fnVC T Tryz.prog Tryz.f172 [.sl (a.map shV), .sl (b.map shV)] (DB (a=b)):=by
 have i:(a.map shV).length=a.length:=Ad;have j:(b.map shV).length=b.length:=Ad;generalize hP:(a=b)=P;have hr:P↔a=b:=GZ;clear hP;repeat' ((conv=>whnf);first|refine zS ?_|refine zT ?_ ?_<;>intro _|fail)
 all_goals conv=>whnf
 all_goals first
  |exact aA (aC (λh=>by have:=RI List.length (hr.1 h);omega))
  |skip
 refine oU (A:=List Sh) (B:=List Sh) (C:=List Sh) (λD R S=>mkSt [(0, .sl (a.map shV)),(1, .sl (b.map shV)),(5,I D.length)] [] []) (λD R S=>a=D++R/\b=D++S) (λD R S=>R.length) [] a b ?_ ⟨rfl,rfl⟩ (λD R S hp=>?_);exact zj;obtain⟨hp,hq⟩:=hp;cases R with
 |nil=>exact IQ
 |cons x R=>
  cases S with
  |nil=>exact JF
  |cons y S=>
   have hlen:=aO hp;have d:=aO hq;have e:x≠y->¬P:=λh hP=>Ji;have f:x∈a:=Ae;have k:y∈b:=Au;have c:=g x f;repeat' ((conv=>whnf);first|omega|refine zc (aW1 x y c) ?_|refine zS ?_|refine zT ?_ ?_<;>intro _|fail)
   all_goals conv=>whnf
   all_goals first
    |exact aA (aC (e AX))
    |skip
   exact NH
def cB6(c:Len6 a)(d:∀x∈a,aV5 x):Sp 172 [.sl (a.map shV), .sl (b.map shV)] (DB (a=b)):=zsp func172 (dB4 c d)
def dN5{a b:jL}:a=b↔a.id=b.id/\a.grade=b.grade/\a.heat=b.heat/\a.grain=b.grain/\a.shape=b.shape/\a.defects=b.defects:=by
 constructor;rintro rfl;exact⟨rfl,rfl,rfl,rfl,rfl,rfl⟩;obtain⟨⟩:=a;obtain⟨⟩:=b;rintro⟨c,d,e,f,g,h⟩;simp only at c d e f g h;rw[c,d,e,f,g,h]
def cQ1 a b(f:aA4 a):Sp 119 [zJ a,zJ b] (DB (a=b)):=by
 refine zsp func119 ?_;let⟨c,d,e⟩:=f;have g:=aW1 a.shape b.shape c;have i:=cB6 (b:=b.defects) d e;have j:a=b↔a.id=b.id/\a.grade=b.grade/\a.heat=b.heat/\a.grain=b.grain/\a.shape=b.shape/\a.defects=b.defects:=dN5;generalize (a=b)=P at*;generalize (a.shape=b.shape)=k at*;exact Ov
def eO5{a b:Bar}:a=b↔a.id=b.id/\a.grade=b.grade/\a.heat=b.heat/\a.length=b.length/\a.defects=b.defects:=by
 constructor;rintro rfl;exact⟨rfl,rfl,rfl,rfl,rfl⟩;obtain⟨⟩:=a;obtain⟨⟩:=b;rintro⟨c,d,e,f,g⟩;simp only at c d e f g;rw[c,d,e,f,g]
def dK6 a b(c:Len6 a.defects):Sp 124 [barV a,barV b] (DB (a=b)):=by
 refine zsp func124 ?_;have d:=cE7 (b:=b.defects) c;have e:a=b↔a.id=b.id/\a.grade=b.grade/\a.heat=b.heat/\a.length=b.length/\a.defects=b.defects:=eO5;generalize (a=b)=P at*;exact Ov
def awB:Bar:=⟨1,chB 115,chB 104,100,[]⟩
def awR:Rest:=⟨4,bx0,75,100⟩
def awX:Event:=xC 1 [⟨2,chB 97,40⟩,⟨3,chB 97,30⟩] [awR] 5
def awL:List Event:=[nD awB,uX 1 (chB 112),awX]
def fB9:fM awB:=⟨⟨show(1:Int)<=1 from Ai,show(1:Int)<=1000000 from Ai,yM Ai,yM Ai⟩,show(1:Int)<=100 from Ai,show(100:Int)<=2000 from Ai,RY 6,trivial⟩
theorem dH6:iG (barS awB (chB 112)) awR=0:=by
 unfold iG;rw[Q9 (by show¬true=false;decide),Q9 (by show¬bx0≠bx0;simp),Q9 (by show¬((75:Int)<0\/(100:Int)<=75\/(100:Int)<100);decide)]
def bI7:cZ (barS awB (chB 112)) [] awX.rests=0:=by
 show cZ (barS awB (chB 112)) [] [awR] =0;simp_all [Q9,dH6,cZ]
theorem cK1:dZ (barS awB (chB 112)) awR=⟨true,dN,⟨4,chB 115,chB 104,25,[]⟩,aI⟩:=by
 unfold dZ;rw[Q9 (by show¬true=false;decide),QU dH6];have:W (awR.hi-awR.lo)=25:=Ai;rw[this];rfl
def eP2:nJ (barS awB (chB 112)) awX=awX.scrap:=by
 unfold nJ
 have a:eG (barS awB (chB 112)) awX.rests=[⟨true,dN,⟨4,chB 115,chB 104,25,[]⟩,aI⟩] :=by
  rw[mV bI7];show [dZ (barS awB (chB 112)) awR] =_;rw[cK1]
 rw[a];show subL (subL 100 [40,30]) [25] =5;grind [aC6,R6]
def dQ9:iD awX:=by
 refine aK5 (λc a=>?_) (λr b=>?_) (by show(2:Nat)<=60;decide) (by show(1:Nat)<=6;decide) Ai;simp[Rl,TP,UL]at a;rcases a with rfl|rfl;exact⟨⟨show(1:Int)<=2 from Ai,show(2:Int)<=1000000 from Ai⟩,yM Ai,show(1:Int)<=40 from Ai⟩;exact⟨⟨show(1:Int)<=3 from Ai,show(3:Int)<=1000000 from Ai⟩,yM Ai,show(1:Int)<=30 from Ai⟩;rw[Ri.1 b];exact⟨⟨show(1:Int)<=4 from Ai,show(4:Int)<=1000000 from Ai⟩, .inl rfl⟩
def eF1:dP [awB.id] (fO awX):=by
 rw[qJ];show(∀n∈([2,3,4] :List Int),n∉([1] :List Int))/\([2,3,4] :List Int).Pairwise (·≠·);exact⟨Ai,Ai⟩
def eA5:∀e∈awL,iY e:=by
 intro e d;have b:e=nD awB\/e=uX 1 (chB 112)\/e=awX:=by simpa [awL]using d
 have a:tN dN:=⟨⟨RY _,RY _,λh c=>by cases c⟩,RY _,λh c=>by cases c⟩;rcases b with rfl|rfl|rfl;exact⟨a,RY _,RY _,RY _⟩;exact⟨a,RY _,RY _,RY _⟩;exact⟨a,RY _,show(2:Nat)<=1000000 from Ai,show(1:Nat)<=1000000 from Ai⟩
def nil1(x:V):V:=match x with
 | .lit u=>(match u with| .slice none 0 0=> .sl [] |u=> .lit u)
 |x=>x
def nilC(x:V):V:=match x with
 | .agg xs=> .agg (mapR nil1 xs)
 |x=>nil1 x
def nilSt(σ:St):St:=⟨λs=>nilC (σ.env s),σ.bx,σ.ar⟩
theorem dC4(h:Rv w G v x):Rv w G v (nil1 x):=by
 unfold nil1;exact Qm
theorem eM7(h:x.ok p q):(nil1 x).ok p q:=by
 unfold nil1;grind [V.ok,V.okL]
def eQ8(h:Rv w G v x):Rv w G v (nilC x):=by
 cases x with
 |agg xs=>
  show Rv w G v (.agg (mapR nil1 xs));rw[dU];cases h with
  |agg cs _ a b f=>
   refine .agg cs _ (by simp[a]) b (λi c y e d=>?_);rw[RN]at d;grind [dC4]
 |_=>exact dC4 h
def dG1(h:x.ok p q):(nilC x).ok p q:=by
 cases x with
 |agg xs=>
  show(V.agg (mapR nil1 xs)).ok p q;grind [dU,aH,eM7,V.ok]
 |_=>exact eM7 h
def le_nil σ:Le T σ (nilSt σ):=by
 unfold Le;intro Φ a w G inv;exact⟨G,{inv with env:=λs=>eQ8 (inv.env s),wfE:=λs=>dG1 (inv.wfE s)}⟩
def fZ1:pJ s↔s=dN:=by
 let⟨i,g,h,a,⟨o,b⟩,d⟩:=s;unfold pJ dN sh0;grind
def gC9:yT b↔b=bar0:=by
 let⟨i,g,h,l,d⟩:=b;grind [RS,yT,bar0]
def fR6 s(a:aA4 s):Sp 78 [zJ s] (DB (pJ s)):=by
 refine zsp func78 ?_;have b:=cQ1 s dN a;have e:DB (pJ s)=DB (s=dN):=RI DB (propext fZ1);rw[e];generalize (s=dN)=P at*;exact zF
def fW3 n:Sp 82 [I n] (DB (nC n)):=by
 refine zsp func82 ?_;exact Oy
def fG6 b:Sp 47 [B b] (I (fC6 b)):=by
 refine zsp func47 ?_;cases b;exact zF;exact zF
def fN5 x:Sp 83 [aQ x] (I (sid x)):=by
 refine zsp func83 ?_;exact OH
def fJ6 x(a:eY x):Sp 48 [aQ x] (I (gG x)):=by
 refine zsp func48 ?_;have c:=fK5 x.sheet.shape a.1.1;exact OH
def fR9 b p q:Sp 88 [bY p,bY q,B b] (DB (kP b p q)):=by
 refine zsp func88 ?_;cases b with
 |true=>exact JD
 |false=>exact Jh
def aC2{α:Type}(key:α->Int)(l:List α)(n:Int):Int:=match l.findIdx? (λx=>decide (key x=n))with|some i=>i|none=> -1
def aB5{l}{n}(h:∀x∈l,key x≠n):aC2 key l n= -1:=by
 unfold aC2;grind
def fI9{x:a}(h:∀x∈D,key x≠n)(b:key x=n):aC2 key (D++x::R) n=D.length:=by
 unfold aC2;grind
def fZ7 s n(d:s.stocks.length<=1000000):Sp 46 [invV s,I n] (I (aC2 sid s.stocks n)):=by
 refine zsp func46 ?_;have b:(s.stocks.map aQ).length=s.stocks.length:=Ad;repeat' ((conv=>whnf);first|refine zS ?_|fail)
 refine aU (A:=List aN) (B:=List aN) (λD R=>mkSt [(1,I n),(2, .box 2 0),(5,I D.length)] [(2,invC s)] []) (λD R=>s.stocks=D++R/\∀x∈D,sid x≠n) (λD R=>R.length) [] s.stocks ?_ ⟨rfl,Ad⟩ (λD R hp=>?_);exact zj;let⟨hp,hD⟩:=hp;cases R with
 |nil=>
  have a:s.stocks.length=D.length:=Ae;have e:aC2 sid s.stocks n= -1:=aB5 Fb;rw[e];exact NI
 |cons x R=>
  have a:=aO hp;have c:=fN5 x;have hS:sid x=n->aC2 sid s.stocks n=D.length:=λh=>by rw[hp];exact fI9 hD h
  have hN:sid x≠n->∀y∈D++[x],sid y≠n:=λh y hy=>Kr;generalize sid x=k at*;generalize aC2 sid s.stocks n=F at*;exact O1
def fO3 s n(c:s.pieces.length<=1000000):Sp 45 [invV s,I n] (I (aC2 Piece.id s.pieces n)):=by
 refine zsp func45 ?_;have b:(s.pieces.map aZ).length=s.pieces.length:=Ad;repeat' ((conv=>whnf);first|refine zS ?_|fail)
 refine aU (A:=List Piece) (B:=List Piece) (λD R=>mkSt [(1,I n),(2, .box 2 0),(5,I D.length)] [(2,invC s)] []) (λD R=>s.pieces=D++R/\∀x∈D,x.id≠n) (λD R=>R.length) [] s.pieces ?_ ⟨rfl,Ad⟩ (λD R hp=>?_);exact zj;let⟨hp,hD⟩:=hp;cases R with
 |nil=>
  have a:s.pieces.length=D.length:=Ae;have e:aC2 Piece.id s.pieces n= -1:=aB5 Fb;rw[e];exact NI
 |cons x R=>
  have a:=aO hp;have hS:x.id=n->aC2 Piece.id s.pieces n=D.length:=λh=>by rw[hp];exact fI9 hD h
  have hN:x.id≠n->∀y∈D++[x],y.id≠n:=λh y hy=>Kr;generalize aC2 Piece.id s.pieces n=F at*;exact O1
def fT4{l D R}{t}(hp:l=D++R)(c:∀x∈D,key x<t)(d:∀x R',R=x::R'->t<=key x):bs key l t=D.length:=by
 refine dC0 Ae (λk m e a=>?_) (λm a=>?_);rw[hp,List.getElem?_append_left e]at a;exact c m (QZ a);rw[hp,U1 (Rf _),Nat.sub_self]at a;cases R with
 |nil=>simp at a
 |cons x R'=>
  simp[UD,SI]at a;subst a;exact d _ _ rfl
def fH2(f:a->V) l x(h:i=k):(putAt l i x).map f=List.take (k:Int).toNat (l.map f)++[f x] ++List.drop (k:Int).toNat (List.take ((l.map f).length:Int).toNat (l.map f)):=by
 subst h;exact fI6 f l x i
def fF6{a:Type}{f:a->V}(hf:∀x,(f x).cells.length=n)(l:List a):∀y∈l.map f,y.cells.length=n:=λy hy=>F7
def fL0{a:Type}{f:a->V}(b:∀x,(f x).cells.length=n)(l:List a) k:∀y∈(l.map f).take k,y.cells.length=n:=λy c=>fF6 b l y (RP c)
def f_dt{a:Type}{f:a->V}(b:∀x,(f x).cells.length=n)(l:List a) k m:∀y∈((l.map f).take m).drop k,y.cells.length=n:=λy c=>fF6 b l y (RP (RQ c))
abbrev zInv:List V:=[nilV,nilV,nilV,I 0,I 0,I 0,I 0]
def fT9 s n(i:s.used.length<=1000000):Sp 84 [invV s,I n] (invV {s with used:=putN s.used n}):=by
 refine zsp func84 ?_;have g:(s.used.map I).length=s.used.length:=Ad;show fnVC _ _ _ _ (.agg [.sl (s.stocks.map aQ), .sl (s.pieces.map aZ), .sl ((putN s.used n).map I),I s.received.1,I s.received.2,I s.scrap.1,I s.scrap.2]);generalize b:(putN s.used n).map I=U;repeat' ((conv=>whnf);first|refine zS ?_|fail)
 refine aU (A:=List Int) (B:=List Int) (λD R=>mkSt [(1,I n),(2, .box 2 0),(4, .box 4 0),(5,I D.length)] [(2,invC s),(4,zInv)] []) (λD R=>s.used=D++R/\∀x∈D,x<n) (λD R=>R.length) [] s.used ?_ ⟨rfl,Ad⟩ (λD R hp=>?_);exact zj;let⟨hp,hD⟩:=hp;cases R with
 |nil=>
  have a:s.used.length=D.length:=Ae;have e:=(fH2 I s.used n (k:=D.length) (fT4 (key:=id) hp hD (λx R' h=>Ah))).symm.trans b;repeat' ((conv=>whnf);first|omega|refine cC0 [(2,2),(23,2),(31,2),(36,2)] Af Ac ?_|refine iH rfl (.inl rfl) rfl (QV rfl) (fL0 (f:=I) (n:=1) (λ_=>rfl) s.used _) CS ?_|refine iH rfl (.inl rfl) rfl (QV rfl) (dA rfl) CU ?_|refine iH rfl (.inl rfl) rfl (QV rfl) (f_dt (f:=I) (n:=1) (λ_=>rfl) s.used _ _) AB ?_|refine fU ⟨Aa,Aa,Aa, .inr (fF6 (f:=I) (n:=1) (λ_=>rfl) s.used)⟩ ?_|refine zS ?_|refine zT ?_ ?_<;>intro _|fail)
  rw[<-e];all_goals exact zE
 |cons x R=>
  have a:=aO hp;have d:x<n->∀y∈D++[x],y<n:=λh y hy=>Kr;have e:n<=x->_:=λh=>(fH2 I s.used n (k:=D.length) (fT4 (key:=id) hp hD (λx R' c=>by cases c;exact h))).symm.trans b;repeat' ((conv=>whnf);first|omega|refine cC0 [(2,2),(23,2),(31,2),(36,2)] Af Ac ?_|refine iH rfl (.inl rfl) rfl (QV rfl) (fL0 (f:=I) (n:=1) (λ_=>rfl) s.used _) CS ?_|refine iH rfl (.inl rfl) rfl (QV rfl) (dA rfl) CU ?_|refine iH rfl (.inl rfl) rfl (QV rfl) (f_dt (f:=I) (n:=1) (λ_=>rfl) s.used _ _) AB ?_|refine fU ⟨Aa,Aa,Aa, .inr (fF6 (f:=I) (n:=1) (λ_=>rfl) s.used)⟩ ?_|refine zS ?_|refine zT ?_ ?_<;>intro _|fail)
  all_goals conv=>whnf
  refine⟨(D++[x],R),?_,⟨Ae,d Aa⟩,Ad⟩;exact Nh;rw[<-e Aa];all_goals exact zE
def fN8 s x(w:s.stocks.length<=1000000)(t:s.used.length<=1000000):Sp 43 [invV s,aQ x] (invV {s with stocks:=putS s.stocks x,used:=putN s.used (sid x)}):=by
 refine zsp func43 ?_;have r:(s.stocks.map aQ).length=s.stocks.length:=Ad;have b:putS s.stocks x=putAt s.stocks (bs sid s.stocks (sid x)) x:=rfl;have g:=fT9 {s with stocks:=putS s.stocks x} (sid x) t;change Sp _ [.agg [.sl ((putS s.stocks x).map aQ), .sl (s.pieces.map aZ), .sl (s.used.map I),I s.received.1,I s.received.2,I s.scrap.1,I s.scrap.2],I (sid x)] (.agg [.sl ((putS s.stocks x).map aQ), .sl (s.pieces.map aZ), .sl ((putN s.used (sid x)).map I),I s.received.1,I s.received.2,I s.scrap.1,I s.scrap.2])at g;show fnVC _ _ _ _ (.agg [.sl ((putS s.stocks x).map aQ), .sl (s.pieces.map aZ), .sl ((putN s.used (sid x)).map I),I s.received.1,I s.received.2,I s.scrap.1,I s.scrap.2]);have d:=fN5 x;generalize i:(putS s.stocks x).map aQ=U at*;rw[b]at i;generalize putN s.used (sid x)=N at*;generalize v:sid x=k at*;repeat' ((conv=>whnf);first|refine zS ?_|fail)
 refine aU (A:=List aN) (B:=List aN) (λD R=>mkSt [(2, .box 2 0),(3, .box 3 0),(4, .box 4 0),(5,I D.length)] [(2,invC s),(3,gB x),(4,zInv)] []) (λD R=>s.stocks=D++R/\∀y∈D,sid y<k) (λD R=>R.length) [] s.stocks ?_ ⟨rfl,Ad⟩ (λD R hp=>?_);exact zj;obtain⟨hp,hD⟩:=hp;cases R with
 |nil=>
  have a:s.stocks.length=D.length:=Ae;have e:=(fH2 aQ s.stocks x (k:=D.length) (fT4 (key:=sid) hp hD (λx R' h=>Ah))).symm.trans i;subst e;repeat' ((conv=>whnf);first|omega|refine bW8 [(2,2),(3,3),(4,4)] [(42,[88888])] Af Ak ?_|refine cC0 [(2,2),(3,3),(25,2),(33,2),(38,2)] Af Ak ?_|refine iH rfl (.inl rfl) rfl (QV rfl) (fL0 (f:=aQ) (n:=14) (λ_=>rfl) s.stocks _) Bj ?_|refine iH rfl (.inl rfl) rfl (QV rfl) (dA rfl) CO ?_|refine iH rfl (.inl rfl) rfl (QV rfl) (f_dt (f:=aQ) (n:=14) (λ_=>rfl) s.stocks _ _) A8 ?_|refine fU ⟨Aa,Aa,Aa, .inr (fF6 (f:=aQ) (n:=14) (λ_=>rfl) s.stocks)⟩ ?_|refine zc d ?_|refine zh (xX g) [] ?_|refine zS ?_|refine zT ?_ ?_<;>intro _|fail)
  all_goals exact zE
 |cons y R=>
  have a:=aO hp;have m:=fN5 y;have q:sid y<k->∀z∈D++[y],sid z<k:=λh z hz=>Jk;by_cases j:k<=sid y
  ·have e:=(fH2 aQ s.stocks x (k:=D.length) (fT4 (key:=sid) hp hD (λx R' o=>by cases o;exact j))).symm.trans i
   subst e;generalize sid y=u at*;repeat' ((conv=>whnf);first|omega|refine bW8 [(2,2),(3,3),(4,4)] [(42,[88888])] Af Ak ?_|refine cC0 [(2,2),(3,3),(25,2),(33,2),(38,2)] Af Ak ?_|refine aB (l:=s.stocks) Aa ?_|refine aF (l:=s.stocks) (A:=D) (x:=y) (B:=R) hp Aa ?_|refine iH rfl (.inl rfl) rfl (QV rfl) (fL0 (f:=aQ) (n:=14) (λ_=>rfl) s.stocks _) Bj ?_|refine iH rfl (.inl rfl) rfl (QV rfl) (dA rfl) CO ?_|refine iH rfl (.inl rfl) rfl (QV rfl) (f_dt (f:=aQ) (n:=14) (λ_=>rfl) s.stocks _ _) A8 ?_|refine fU ⟨Aa,Aa,Aa, .inr (fF6 (f:=aQ) (n:=14) (λ_=>rfl) s.stocks)⟩ ?_|refine zc m ?_|refine zc d ?_|refine zh (xX g) [] ?_|refine zS ?_|refine zT ?_ ?_<;>intro _|fail)
   all_goals exact zE
  have c:=q Aa;generalize sid y=u at*;repeat' ((conv=>whnf);first|omega|refine bW8 [(2,2),(3,3),(4,4)] [(42,[88888])] Af Ak ?_|refine aB (l:=s.stocks) Aa ?_|refine aF (l:=s.stocks) (A:=D) (x:=y) (B:=R) hp Aa ?_|refine zc m ?_|refine zc d ?_|refine zS ?_|refine zT ?_ ?_<;>intro _|fail)
  all_goals conv=>whnf
  refine⟨(D++[y],R),?_,⟨Ae,c⟩,Ad⟩;exact Nh
def fW8 s x(q:s.pieces.length<=1000000)(o:s.used.length<=1000000):Sp 89 [invV s,aZ x] (invV {s with pieces:=putP s.pieces x,used:=putN s.used x.id}):=by
 refine zsp func89 ?_;have m:(s.pieces.map aZ).length=s.pieces.length:=Ad;have b:putP s.pieces x=putAt s.pieces (bs Piece.id s.pieces x.id) x:=rfl;have i:=fT9 {s with pieces:=putP s.pieces x} x.id o;change Sp _ [.agg [.sl (s.stocks.map aQ), .sl ((putP s.pieces x).map aZ), .sl (s.used.map I),I s.received.1,I s.received.2,I s.scrap.1,I s.scrap.2],I x.id] (.agg [.sl (s.stocks.map aQ), .sl ((putP s.pieces x).map aZ), .sl ((putN s.used x.id).map I),I s.received.1,I s.received.2,I s.scrap.1,I s.scrap.2])at i;show fnVC _ _ _ _ (.agg [.sl (s.stocks.map aQ), .sl ((putP s.pieces x).map aZ), .sl ((putN s.used x.id).map I),I s.received.1,I s.received.2,I s.scrap.1,I s.scrap.2]);generalize d:(putP s.pieces x).map aZ=U at*;rw[b]at d;generalize putN s.used x.id=N at*;repeat' ((conv=>whnf);first|refine zS ?_|fail)
 refine aU (A:=List Piece) (B:=List Piece) (λD R=>mkSt [(2, .box 2 0),(3, .box 3 0),(4, .box 4 0),(5,I D.length)] [(2,invC s),(3,dZ8 x),(4,zInv)] []) (λD R=>s.pieces=D++R/\∀y∈D,y.id<x.id) (λD R=>R.length) [] s.pieces ?_ ⟨rfl,Ad⟩ (λD R hp=>?_);exact zj;let⟨hp,hD⟩:=hp;cases R with
 |nil=>
  have a:s.pieces.length=D.length:=Ae;have e:=(fH2 aZ s.pieces x (k:=D.length) (fT4 (key:=Piece.id) hp hD (λx R' h=>Ah))).symm.trans d;exact N9
 |cons y R=>
  have a:=aO hp;have l:y.id<x.id->∀z∈D++[y],z.id<x.id:=λh z hz=>Jk;by_cases g:x.id<=y.id;have e:=(fH2 aZ s.pieces x (k:=D.length) (fT4 (key:=Piece.id) hp hD (λx R' j=>by cases j;exact g))).symm.trans d;exact N9;have c:=l Aa;repeat' ((conv=>whnf);first|omega|refine bW8 [(2,2),(3,3),(4,4)] [(42,[88888])] Af Ak ?_|refine zS ?_|refine zT ?_ ?_<;>intro _|fail)
  all_goals conv=>whnf
  refine⟨(D++[y],R),?_,⟨Ae,c⟩,Ad⟩;exact Nh
def fG9 s(k:Nat)(b:k<s.stocks.length)(c:s.stocks.length<=1000000):Sp 49 [invV s,I k] (invV {s with stocks:=nN s.stocks k}):=by
 refine zsp func49 ?_;have a:(s.stocks.map aQ).length=s.stocks.length:=Ad;show fnVC _ _ _ _ (.agg [.sl ((nN s.stocks k).map aQ), .sl (s.pieces.map aZ), .sl (s.used.map I),I s.received.1,I s.received.2,I s.scrap.1,I s.scrap.2])
 have e:(nN s.stocks k).map aQ=List.take (k:Int).toNat (s.stocks.map aQ)++List.drop ((k:Int)+1).toNat (List.take ((s.stocks.map aQ).length:Int).toNat (s.stocks.map aQ)):=by
  unfold nN;rw[show((k:Int)+1).toNat=k+1 from Aa,SK,SK,TM,RH,List.map_take,List.map_drop]
 rw[e];repeat' ((conv=>whnf);first|refine cC0 [(2,2),(6,2),(11,2),(17,2)] Af Ak ?_|refine iH rfl (.inl rfl) rfl (QV rfl) (fL0 (f:=aQ) (n:=14) (λ_=>rfl) s.stocks _) Bj ?_|refine iH rfl (.inl rfl) rfl (QV rfl) (f_dt (f:=aQ) (n:=14) (λ_=>rfl) s.stocks _ _) (by show(List.take _ (s.stocks.map aQ)).length+(List.drop _ (List.take _ (s.stocks.map aQ))).length<=1000000000;rw[Rk,Sr,Rk];omega) ?_|refine fU ⟨Aa,Aa,Aa, .inr (fF6 (f:=aQ) (n:=14) (λ_=>rfl) s.stocks)⟩ ?_|refine zS ?_|fail)
 all_goals exact zE
def fG2(c:List V)(br:Bar)(r:Rest)(X:List Iv)(n:Int):St:=match X with
 | [] =>mkSt [(2, .box 2 0),(3, .box 3 0),(4, .box 4 0),(5,I 0),(9, .box 9 0),(10,I n)]
   [(2,c),(3,(bY r).cells),(4,dA5),(9,[I r.id,S br.grade,S br.heat,I (W (r.hi-r.lo)),nilV])] []
 |y::X=>mkSt [(2, .box 2 0),(3, .box 3 0),(4, .box 4 0),(5,I 0),(9, .box 9 0),(10,I n)]
  [(2,c),(3,(bY r).cells),(4,dA5),(9,[I r.id,S br.grade,S br.heat,I (W (r.hi-r.lo)), .arr 120 X.length])] [(120,⟨X.length, .own,34,(y::X).map ivV⟩)]
def gB3 x r(n:eY x):Sp 87 [aQ x,bY r] (.tup [aQ (dZ x r),I (iG x r)]):=by
 refine zsp func87 ?_;have o:=fP0 x.sheet r.box r.id n.1;cases hb:x.isBar with
 |false=>exact Jd
 |true=>
  have j:¬x.isBar=false:=by rw[hb];decide
  have c1:¬(x.isBar=false):=j;by_cases c2:r.box=bx0;rotate_left
  ·have e1:iG x r=1:=by unfold iG;rw[Q9 c1,QU c2]
   have e2:dZ x r=wS:=BM;rw[e1,e2];obtain⟨b,s,br,p⟩:=x;cases hb;repeat' ((conv=>whnf);first|(exfalso;contradiction)|refine cC5 ?_|refine cA4 (a:=r.box) (b:=bx0) (λhv=>?_) (λhv=>?_)|refine zS ?_|refine zT ?_ ?_<;>intro _|fail)
   all_goals exact zE
  by_cases c3:r.lo<0\/r.hi<=r.lo\/x.bar.length<r.hi;have e1:iG x r=2:=by unfold iG;rw[Q9 c1,Q9 (λh=>h c2),QU c3]
  have e2:dZ x r=wS:=BM;rw[e1,e2];obtain⟨b,s,br,p⟩:=x;cases hb;have i:(⟨true,s,br,p⟩:aN).bar.length=br.length:=rfl;rw[i]at c3;exact O0;have e1:iG x r=0:=Ej;have e2:dZ x r=⟨true,dN,⟨r.id,x.bar.grade,x.bar.heat,W (r.hi-r.lo),kH r x.bar.defects⟩,aI⟩:=by unfold dZ;rw[Q9 c1,QU e1]
  rw[e1,e2];have hl:(x.bar.defects.map ivV).length=x.bar.defects.length:=Ad;have k:=n.2;obtain⟨b,s,br,p⟩:=x;cases hb;repeat' ((conv=>whnf);first|(exfalso;contradiction)|omega|refine cC5 ?_|refine cA4 (a:=r.box) (b:=bx0) (λhv=>?_) (λhv=>?_)|refine zS ?_|refine zT ?_ ?_<;>intro _|fail)
  all_goals conv=>whnf
  all_goals
   clear e1 e2 o;simp only at hl k c3;have t:((⟨true,s,br,p⟩:aN).bar.defects.map ivV).length=br.defects.length:=Ad;have i:(⟨true,s,br,p⟩:aN).bar.length=br.length:=rfl;refine aU (A:=List Iv) (B:=List Iv) (λD R=>fG2 (gB ⟨true,s,br,p⟩) br r (kH r D) D.length) (λD R=>br.defects=D++R) (λD R=>R.length) [] br.defects ?_ rfl (λD R hp=>?_)
   ·show Le T _ (fG2 (gB ⟨true,s,br,p⟩) br r [] 0)
    exact NE
   have q:=aG5 r D;cases R with
   |nil=>exact Kz
   |cons d R=>
    have hlen:=aO hp;have c:=cK9 r D d;have f:((D++[d]).length:Int)=(D.length:Int)+1:=Ad;generalize kH r D=X at*;by_cases m:max d.1 r.lo<min d.2 r.hi
    ·have g:aH0 r d=[(W (maxI d.1 r.lo-r.lo),W (minI d.2 r.hi-r.lo))] :=by unfold aH0;rw[QU m,mG,lH]
     rw[g]at c;cases X with
     |nil=>
      repeat' ((conv=>whnf);first|omega|refine eZ1 Ak ?_|(exfalso;simp only[mG,lH]at*;omega)|refine gX (QV rfl) (dA rfl) (QV rfl) ?_|refine zS ?_|refine zT ?_ ?_<;>intro _|fail)
      all_goals conv=>whnf
      refine⟨(D++[d],R),?_,Ae,Ad⟩;show Le T _ (fG2 (gB ⟨true,s,br,p⟩) br r (kH r (D++[d])) (D++[d]).length);rw[c,f];show Le T _ (fG2 (gB ⟨true,s,br,p⟩) br r [_] _);exact zj
     |cons y X=>
      have l:(y::X).length=X.length+1:=rfl;repeat' ((conv=>whnf);first|omega|refine eZ1 Ak ?_|(exfalso;simp only[mG,lH]at*;omega)|refine iH rfl (.inl rfl) rfl (QV rfl) (dA rfl) (show((y::X).map ivV).length+1<=1000000000 from D9) ?_|refine zS ?_|refine zT ?_ ?_<;>intro _|fail)
      all_goals conv=>whnf
      refine⟨(D++[d],R),?_,Ae,Ad⟩;show Le T _ (fG2 (gB ⟨true,s,br,p⟩) br r (kH r (D++[d])) (D++[d]).length);rw[c,f];show Le T _ (fG2 (gB ⟨true,s,br,p⟩) br r (y::(X++[_])) _);unfold fG2;exact Nw
    have g:aH0 r d=[] :=by unfold aH0;rw[Q9 m]
    rw[g,Rq]at c;cases X with
    |nil=>
     repeat' ((conv=>whnf);first|omega|refine eZ1 Ak ?_|(exfalso;simp only[mG,lH]at*;omega)|refine zS ?_|refine zT ?_ ?_<;>intro _|fail)
     all_goals conv=>whnf
     refine⟨(D++[d],R),?_,Ae,Ad⟩;show Le T _ (fG2 (gB ⟨true,s,br,p⟩) br r (kH r (D++[d])) (D++[d]).length);rw[c,f];show Le T _ (fG2 (gB ⟨true,s,br,p⟩) br r [] _);exact zj
    |cons y X=>
     have l:(y::X).length=X.length+1:=rfl;repeat' ((conv=>whnf);first|omega|refine eZ1 Ak ?_|(exfalso;simp only[mG,lH]at*;omega)|refine zS ?_|refine zT ?_ ?_<;>intro _|fail)
     all_goals conv=>whnf
     refine⟨(D++[d],R),?_,Ae,Ad⟩;show Le T _ (fG2 (gB ⟨true,s,br,p⟩) br r (kH r (D++[d])) (D++[d]).length);rw[c,f];show Le T _ (fG2 (gB ⟨true,s,br,p⟩) br r (y::X) _);exact zj
def addQ(s:aJ)(x:aN):aJ:={s with stocks:=putS s.stocks x,used:=putN s.used (sid x)}
def mkQ(s:aJ)(x:Piece):aJ:={s with pieces:=putP s.pieces x,used:=putN s.used x.id}
def fH1(s:aJ)(x:aN)(D:List Rest):aJ:=D.foldl (λs r=>addQ s (dZ x r)) s
def sumQ(n:Int)(x:aN)(D:List Rest):Int:=D.foldl (λn r=>W (n+gG (dZ x r))) n
def mkQs(s:aJ)(e:Event)(x:aN)(D:List Made):aJ:=D.foldl (λs c=>mkQ s (fZ e x c)) s
def fG3(size:Int):Int->List Made->Int
 |n,[] =>if n=size then 0 else 29
 |n,c::R=>if size<c.size\/size<n then 29 else fG3 size (W (n+c.size)) R
def gStk(x:aN):ByteArray:=if x.isBar then x.bar.grade else x.sheet.grade
def hK(x:aN):ByteArray:=if x.isBar then x.bar.heat else x.sheet.heat
def begQ(x:aN)(e:Event):Int:=minI e.scrap (W (gG x+1))
def finQ(s:aJ)(k:Nat)(x:aN)(e:Event):aJ:=mkQs (fH1 {s with stocks:=nN s.stocks k} x e.rests) e x e.cuts
def cutQ(s:aJ)(k:Nat)(x:aN)(e:Event):aJ×Int:=
 if cZ x [] e.rests≠0 then(inv0,cZ x [] e.rests)else if fG3 (gG x) (sumQ (begQ x e) x e.rests) e.cuts≠0 then(inv0,29)
 else({finQ s k x e with scrap:=plus x.isBar (finQ s k x e).scrap e.scrap},0)
def fS6 x:∀ D  s,(fH1 s x D).stocks.length=s.stocks.length+D.length/\(fH1 s x D).used.length=s.used.length+D.length/\(fH1 s x D).pieces=s.pieces
 | [],s=>⟨rfl,rfl,rfl⟩
 |r::D,s=>by
  let⟨a,b,c⟩:=fS6 x D (addQ s (dZ x r));refine⟨a.trans ?_,b.trans ?_,c⟩;rw[show(addQ s (dZ x r)).stocks.length=s.stocks.length+1 from mQ,Ro];omega;rw[show(addQ s (dZ x r)).used.length=s.used.length+1 from mQ,Ro];omega
def fX0 e x:∀ D  s,(mkQs s e x D).pieces.length=s.pieces.length+D.length/\(mkQs s e x D).used.length=s.used.length+D.length
 | [],s=>⟨rfl,rfl⟩
 |r::D,s=>by
  let⟨a,b⟩:=fX0 e x D (mkQ s (fZ e x r));refine⟨a.trans ?_,b.trans ?_⟩;rw[show(mkQ s (fZ e x r)).pieces.length=s.pieces.length+1 from mQ,Ro];omega;rw[show(mkQ s (fZ e x r)).used.length=s.used.length+1 from mQ,Ro];omega
def gA5 s x D r:fH1 s x (D++[r])=addQ (fH1 s x D) (dZ x r):=by unfold fH1;simp
def gD3 n x D r:sumQ n x (D++[r])=W (sumQ n x D+gG (dZ x r)):=by unfold sumQ;simp
def gD8 s e x D c:mkQs s e x (D++[c])=mkQ (mkQs s e x D) (fZ e x c):=by unfold mkQs;simp
def fN1:kP b p q↔kP b q p:=by
 grind [kP]
def gC3(s:aJ)(k:Nat)(x:aN)(e:Event)(o:aJ)(n:Int)(i:Nat):St:=
 mkSt [(1,I k),(3, .box 3 0),(5, .box 5 0),(6, .box 6 0),(7,I 0),(8, .box 8 0),(9, .box 9 0),(10,I n),(11,I i)] [(3,invC s),(5,iJ e),(6,zInv),(8,gB x),(9,invC o)] []
def fV5(s:aJ)(k:Nat)(x:aN)(e:Event)(o:aJ)(n:Int)(i:Nat)(y:aN)(j:Nat):St:=
 mkSt [(1,I k),(3, .box 3 0),(5, .box 5 0),(6, .box 6 0),(7,I 0),(8, .box 8 0),(9, .box 9 0),(10,I n),(11,I i),(12, .box 12 0),(14,I j)] [(3,invC s),(5,iJ e),(6,zInv),(8,gB x),(9,invC o),(12,gB y)] []
def fQ1(s:aJ)(k:Nat)(x:aN)(e:Event)(o:aJ)(n:Int)(i:Nat):St:=
 mkSt [(1,I k),(3, .box 3 0),(5, .box 5 0),(6, .box 6 0),(7,I 0),(8, .box 8 0),(9, .box 9 0),(10,I n),(15,S (gStk x)),(16,S (hK x)),(17,I i)] [(3,invC s),(5,iJ e),(6,zInv),(8,gB x),(9,invC o)] []
def gD2 s(k:Nat) x e(hx:s.stocks[k]? =some x)(ag:s.stocks.length<=900000)(ah:s.pieces.length<=900000)(ai:s.used.length<=900000)(L:eY x)(hc:e.cuts.length<=10000)(hr:e.rests.length<=10000):Sp 50 [invV s,I k,aS e] (.tup [invV (cutQ s k x e).1,I (cutQ s k x e).2]):=by
 refine zsp func50 ?_;have ac:=(QW.1 hx).1;have an:(s.stocks.map aQ).length=s.stocks.length:=Ad;have am:(e.cuts.map dK).length=e.cuts.length:=Ad;have ao:(e.rests.map bY).length=e.rests.length:=Ad;have g1:=fG9 s k ac Aa;have g2:=fJ6 x L;have aa:(nN s.stocks k).length<=s.stocks.length:=by unfold nN;rw[QY,Rk,Sr];omega
 have H:cZ x [] e.rests≠0->cutQ s k x e=(inv0,cZ x [] e.rests):=λh=>QU h;have d:cZ x [] e.rests=0->fG3 (gG x) (sumQ (begQ x e) x e.rests) e.cuts≠0->cutQ s k x e=(inv0,29):=λh1 h2=>(Q9 (λh=>h h1)).trans (QU h2);have f:cZ x [] e.rests=0->fG3 (gG x) (sumQ (begQ x e) x e.rests) e.cuts=0->cutQ s k x e=({finQ s k x e with scrap:=plus x.isBar (finQ s k x e).scrap e.scrap},0):=λh1 h2=>(Q9 (λh=>h h1)).trans (Q9 (λh=>h h2));generalize cutQ s k x e=Q at*;unfold begQ at*;generalize i:({s with stocks:=nN s.stocks k}:aJ)=j at*;have aj:j.stocks.length<=900000:=by rw[<-i];exact Rz aa ag
 have ak:j.pieces.length<=900000:=by rw[<-i];exact ah
 have al:j.used.length<=900000:=by rw[<-i];exact ai
 have t:finQ s k x e=mkQs (fH1 j x e.rests) e x e.cuts:=by rw[<-i];rfl
 rw[t]at f;clear t i aa;generalize gG x=z at*;repeat' ((conv=>whnf);first|omega|refine eZ1 Ak ?_|refine aB (l:=s.stocks) Aa ?_|refine gK (l:=s.stocks) hx Aa ?_|refine zc g1 ?_|refine zc g2 ?_|refine zS ?_|refine zm (λx hx=>?_)|refine zT ?_ ?_<;>intro _|fail)
 generalize hb:minI e.scrap (W (z+1))=N at*;refine aU (A:=List Rest) (B:=List Rest) (λD R=>gC3 s k x e (fH1 j x D) (sumQ N x D) D.length) (λD R=>e.rests=D++R/\cZ x [] e.rests=cZ x D R) (λD R=>R.length) [] e.rests ?_ ⟨rfl,rfl⟩ (λD R hp=>?_);show Le T _ (gC3 s k x e j N 0);exact zj;obtain⟨hp,C⟩:=hp;obtain⟨a1,a2,a3⟩:=fS6 x D j;generalize U:fH1 j x D=o at*;generalize y:sumQ N x D=n at*;cases R with
 |cons r R=>
  have g:=aO hp;have aq:r∈e.rests:=Ae;have k1:=gB3 x r L;have a:cZ x [] e.rests=(open Classical in if iG x r≠0 then iG x r else if∃q∈D,kP x.isBar q r then 12 else cZ x (D++[r]) R):=C;by_cases he:iG x r=0;rotate_left
  ·have hv:cZ x [] e.rests=iG x r:=by rw[a,QU he]
   have hQ:=H (by rw[hv];exact he);rw[hQ,hv];generalize iG x r=er at*;generalize dZ x r=M at*;repeat' ((conv=>whnf);first|omega|refine eZ1 Ak ?_|refine cC0 [(5,5),(8,8),(42,5),(12,12)] Af Ak ?_|refine aB (l:=e.rests) Aa ?_|refine aF (l:=e.rests) (A:=D) (x:=r) (B:=R) hp Aa ?_|refine zc k1 ?_|refine zS ?_|refine zm (λx hx=>?_)|refine zT ?_ ?_<;>intro _|fail)
   all_goals exact zE
  have G:cZ x [] e.rests=(open Classical in if∃q∈D,kP x.isBar q r then 12 else cZ x (D++[r]) R):=by rw[a,Q9 (λh=>h he)]
  have k2:=fJ6 (dZ x r) (aX5 L);have k3:=fN8 o (dZ x r) Aa Aa;rw[he]at k1;have v:=gA5 j x D r;have u:=gD3 N x D r;rw[U]at v;rw[y]at u;change Sp _ _ (invV (addQ o (dZ x r)))at k3;generalize dZ x r=M at*;generalize addQ o M=o2 at*;generalize gG M=ar at*;repeat' ((conv=>whnf);first|omega|refine eZ1 Ak ?_|refine cC0 [(5,5),(8,8),(42,5),(12,12)] Af Ak ?_|refine aB (l:=e.rests) Aa ?_|refine aF (l:=e.rests) (A:=D) (x:=r) (B:=R) hp Aa ?_|refine zc k1 ?_|refine zS ?_|refine zm (λx hx=>?_)|refine zT ?_ ?_<;>intro _|fail)
  refine aU (A:=List Rest) (B:=List Rest) (λE S=>fV5 s k x e o n D.length M E.length) (λE S=>D=E++S/\∀q∈E,¬kP x.isBar q r) (λE S=>S.length) [] D ?_ ⟨rfl,Ad⟩ (λE S hq=>?_);show Le T _ (fV5 s k x e o n D.length M 0);exact zj;obtain⟨hq,X⟩:=hq;cases S with
  |nil=>
   have K:D.length=E.length:=Au;have ae:¬∃q∈D,kP x.isBar q r:=by rintro⟨q,q1,q2⟩;rw[hq,Rq]at q1;exact X q q1 q2
   rw[Q9 ae]at G;repeat' ((conv=>whnf);first|omega|refine eZ1 Ak ?_|refine zc k2 ?_|refine zc k3 ?_|refine zS ?_|refine zm (λx hx=>?_)|refine zT ?_ ?_<;>intro _|fail)
   all_goals conv=>whnf
   refine⟨(D++[r],R),?_,⟨Ae,G⟩,Ad⟩;show Le T _ (gC3 s k x e (fH1 j x (D++[r])) (sumQ N x (D++[r])) (D++[r]).length);rw[v,u,QY,Rj];unfold gC3;exact zj
  |cons q S=>
   have K:=aO hq;have af:e.rests=E++q::(S++r::R):=Ik;have k4:=fR9 x.isBar r q;have b:kP x.isBar r q->cZ x [] e.rests=12:=λh=>by rw[G,QU ⟨q,by rw[hq];simp,fN1.1 h⟩]
   have J:¬kP x.isBar r q->∀z∈E++[q],¬kP x.isBar z r:=λh z hz=>by
    rcases Rh.1 hz with hz|hz;exact X z hz;rw[Ri.1 hz];exact λw=>h (fN1.1 w)
   generalize kP x.isBar r q=ov at*;repeat' ((conv=>whnf);first|omega|refine eZ1 Ak ?_|refine aB (l:=e.rests) Aa ?_|refine aF (l:=e.rests) (A:=D) (x:=r) (B:=R) hp Aa ?_|refine aF (l:=e.rests) (A:=E) (x:=q) (B:=S++r::R) af Aa ?_|refine zc k4 ?_|refine zS ?_|refine zm (λx hx=>?_)|refine zT ?_ ?_<;>intro _|fail)
   all_goals conv=>whnf
   ·have hv:=b Ag
    rw[H (by rw[hv];decide),hv];all_goals exact zE
   refine⟨(E++[q],S),?_,⟨Au,J Ag⟩,Ad⟩;show Le T _ (fV5 s k x e o n D.length M (E++[q]).length);rw[QY,Rj];unfold fV5;exact zj
 |nil=>
 have g:e.rests.length=D.length:=Ae;have O:e.rests=D:=Ae;have F:cZ x [] e.rests=0:=C;replace d:=d F;replace f:=f F;rw[O,U,y]at f;rw[O,y]at d;clear H C F;repeat' ((conv=>whnf);first|omega|refine eZ1 Ak ?_|refine zS ?_|refine zm (λx hx=>?_)|refine zT ?_ ?_<;>intro _|fail)
 all_goals
  refine aU (A:=List Made) (B:=List Made) (λD R=>fQ1 s k x e (mkQs o e x D) (D.foldl (λn c=>W (n+c.size)) n) D.length) (λD R=>e.cuts=D++R/\fG3 z n e.cuts=fG3 z (D.foldl (λn c=>W (n+c.size)) n) R) (λD R=>R.length) [] e.cuts ?_ ⟨rfl,rfl⟩ (λD R hp=>?_)
  ·show Le T _ (fQ1 s k x e o n 0)
   unfold fQ1
   first
    |rw[show gStk x=x.bar.grade from QU Ag,show hK x=x.bar.heat from QU Ag]
    |rw[show gStk x=x.sheet.grade from Q9 (by simp_all),show hK x=x.sheet.heat from Q9 (by simp_all)]
   exact zj
  obtain⟨hp,C⟩:=hp;obtain⟨b1,b2⟩:=fX0 e x D o;have ab:=gD8 o e x D;have Z:∀c:Made,(D++[c]).foldl (λn c=>W (n+c.size)) n=W (D.foldl (λn c=>W (n+c.size)) n+c.size):=λc=>Ad;generalize V:mkQs o e x D=o3 at b1 b2 ab⊢;generalize D.foldl (λn c=>W (n+c.size)) n=m at C Z⊢;cases R with
  |cons c R=>
   have g:=aO hp;have a:fG3 z n e.cuts=if z<c.size\/z<m then 29 else fG3 z (W (m+c.size)) R:=C
   have k3:=fW8 o3 (fZ e x c) (by rw[b1,a3];omega) Aa;change Sp _ _ (invV (mkQ o3 (fZ e x c)))at k3;by_cases b:z<c.size\/z<m
   ·rw[QU b]at a
    rw[d (by rw[a];decide)];repeat' ((conv=>whnf);first|omega|refine eZ1 Ak ?_|refine aB (l:=e.cuts) Aa ?_|refine aF (l:=e.cuts) (A:=D) (x:=c) (B:=R) hp Aa ?_|refine zc g2 ?_|refine zS ?_|refine zm (λx hx=>?_)|refine zT ?_ ?_<;>intro _|fail)
    all_goals exact zE
   rw[Q9 b]at a;have ad:=ab c;have Y:=Z c;repeat' ((conv=>whnf);first|omega|refine eZ1 Ak ?_|refine aB (l:=e.cuts) Aa ?_|refine aF (l:=e.cuts) (A:=D) (x:=c) (B:=R) hp Aa ?_|refine zc g2 ?_|refine zc k3 ?_|refine zS ?_|refine zm (λx hx=>?_)|refine zT ?_ ?_<;>intro _|fail)
   all_goals conv=>whnf
   refine⟨(D++[c],R),?_,⟨Ae,by rw[Y];exact a⟩,Ad⟩;show Le T _ (fQ1 s k x e (mkQs o e x (D++[c])) ((D++[c]).foldl (λn c=>W (n+c.size)) n) (D++[c]).length);rw[ad,Y,QY,Rj];unfold fQ1;exact zj
  |nil=>
   have g:e.cuts.length=D.length:=Ae;have P:e.cuts=D:=Ae;have a:fG3 z n e.cuts=if m=z then 0 else 29:=C
   by_cases hm:m=z;rotate_left
   ·rw[Q9 hm]at a
    rw[d (by rw[a];decide)];repeat' ((conv=>whnf);first|omega|(exfalso;contradiction)|refine eZ1 Ak ?_|refine zc g2 ?_|refine zS ?_|refine zm (λx hx=>?_)|refine zT ?_ ?_<;>intro _|fail)
    all_goals exact zE
   rw[QU hm]at a;rw[f a,P,V];rcases Bool.eq_false_or_eq_true x.isBar with hb9|hb9;have gi:Sp 47 [B x.isBar] (I 1):=by rw[hb9];exact fG6 true
   exact NU;have gi:Sp 47 [B x.isBar] (I 0):=by rw[hb9];exact fG6 false
   exact NU
def idsR(e:Event):List Int:=if e.kind=1 then [e.sheet.id]else if e.kind=2 then [e.bar.id]else fO e
def idSt(e:Event)(D:List Made):St:=match D with
 | [] =>mkSt [(1, .box 1 0),(3,nilV),(4,I 0)] [(1,iJ e)] []
 |d::D=>mkSt [(1, .box 1 0),(3, .arr 35 D.length),(4,I ((D.length:Int)+1))] [(1,iJ e)] [(35,⟨D.length, .own,3,((d::D).map Made.id).map I⟩)]
def fX5(e:Event)(D:List Rest):St:=match D with
 | [] =>mkSt [(1, .box 1 0),(3,nilV),(5,I 0)] [(1,iJ e)] []
 |d::D=>mkSt [(1, .box 1 0),(3, .arr 51 D.length),(5,I ((D.length:Int)+1))] [(1,iJ e)] [(51,⟨D.length, .own,3,((d::D).map Rest.id).map I⟩)]
def gE7(e:Event)(n:Nat)(C:List Int)(D:List Rest):St:=mkSt [(1, .box 1 0),(3, .arr 35 (n+D.length)),(5,I D.length)] [(1,iJ e)] [(35,⟨n+D.length, .own,3,(C++D.map Rest.id).map I⟩)]
def gC6 e(t:e.cuts.length<=10000)(u:e.rests.length<=10000):Sp 41 [aS e] (.own 3 ((idsR e).map I)):=by
 refine zsp func41 ?_;have q:(e.cuts.map dK).length=e.cuts.length:=Ad;have s:(e.rests.map bY).length=e.rests.length:=Ad;by_cases i:e.kind=1;have h:idsR e=[e.sheet.id] :=QU i;exact OX;by_cases k:e.kind=2;have h:idsR e=[e.bar.id] :=(Q9 i).trans (QU k);exact OX;have h:idsR e=fO e:=(Q9 i).trans (Q9 k);rw[h];clear h;have b:fO e=e.cuts.map Made.id++e.rests.map Rest.id:=rfl;generalize fO e=L at*;repeat' ((conv=>whnf);first|omega|refine zS ?_|refine ze (λheq=>?_) (λheq=>?_))
 refine aU (A:=List Made) (B:=List Made) (λD R=>idSt e D) (λD R=>e.cuts=D++R) (λD R=>R.length) [] e.cuts ?_ rfl (λD R hp=>?_);show Le T _ (idSt e []);exact zj;cases R with
 |cons c R=>
  have a:=aO hp;cases D with
  |nil=>
   have j:([] :List Made).length=0:=rfl;repeat' ((conv=>whnf);first|omega|refine gX (QV rfl) (dA rfl) (QV rfl) ?_|refine zS ?_|refine zl (λhlt=>?_) (λhlt=>?_))
   all_goals conv=>whnf
   refine⟨([c],R),?_,Ae,Ad⟩;show Le T _ (idSt e [c]);exact zj
  |cons d D=>
   have l:(d::D).length=D.length+1:=rfl;repeat' ((conv=>whnf);first|omega|refine iH rfl (.inl rfl) rfl (QV rfl) (dA rfl) (show(((d::D).map Made.id).map I).length+1<=1000000000 from DI) ?_|refine zS ?_|refine zl (λhlt=>?_) (λhlt=>?_))
   all_goals conv=>whnf
   refine⟨(d::D++[c],R),?_,Ae,Ad⟩;show Le T _ (idSt e (d::(D++[c])));unfold idSt;exact Nw
 |nil=>
 have a:e.cuts.length=D.length:=Ae;have f:e.cuts=D:=Ae;rw[f]at b;clear hp f;cases D with
 |nil=>
  have j:([] :List Made).length=0:=rfl;repeat' ((conv=>whnf);first|omega|refine zS ?_|refine zl (λhlt=>?_) (λhlt=>?_))
  refine aU (A:=List Rest) (B:=List Rest) (λD R=>fX5 e D) (λD R=>e.rests=D++R) (λD R=>R.length) [] e.rests ?_ rfl (λD R hp=>?_);show Le T _ (fX5 e []);exact zj;cases R with
  |cons c R=>
   have a:=aO hp;cases D with
   |nil=>
    have j:([] :List Rest).length=0:=rfl;repeat' ((conv=>whnf);first|omega|refine gX (QV rfl) (dA rfl) (QV rfl) ?_|refine zS ?_|refine zl (λhlt=>?_) (λhlt=>?_))
    all_goals conv=>whnf
    refine⟨([c],R),?_,Ae,Ad⟩;show Le T _ (fX5 e [c]);exact zj
   |cons d D=>
    have l:(d::D).length=D.length+1:=rfl;repeat' ((conv=>whnf);first|omega|refine iH rfl (.inl rfl) rfl (QV rfl) (dA rfl) (show(((d::D).map Rest.id).map I).length+1<=1000000000 from DI) ?_|refine zS ?_|refine zl (λhlt=>?_) (λhlt=>?_))
    all_goals conv=>whnf
    refine⟨(d::D++[c],R),?_,Ae,Ad⟩;show Le T _ (fX5 e (d::(D++[c])));unfold fX5;exact Nw
  |nil=>
   have a:e.rests.length=D.length:=Ae;have f:e.rests=D:=Ae;have n:L=D.map Rest.id:=by rw[b,f];rfl
   rw[n];cases D with
   |nil=>
    have j:([] :List Rest).length=0:=rfl;repeat' ((conv=>whnf);first|omega|refine zS ?_|refine zl (λhlt=>?_) (λhlt=>?_))
    all_goals conv=>whnf
    exact PO
   |cons d D=>
    have l:(d::D).length=D.length+1:=rfl;exact NI
 |cons d0 g=>
  have o:(d0::g).length=g.length+1:=rfl;repeat' ((conv=>whnf);first|omega|refine zS ?_|refine zl (λhlt=>?_) (λhlt=>?_))
  have m:((d0::g).map Made.id).length=g.length+1:=Ad;refine aU (A:=List Rest) (B:=List Rest) (λD R=>gE7 e g.length ((d0::g).map Made.id) D) (λD R=>e.rests=D++R) (λD R=>R.length) [] e.rests ?_ rfl (λD R hp=>?_);unfold gE7;rw[SY,Rq];exact zj;generalize (d0::g).map Made.id=C at*;cases R with
  |cons c R=>
   have a:=aO hp;have r:((C++D.map Rest.id).map I).length=C.length+D.length:=Ad;repeat' ((conv=>whnf);first|omega|refine iH rfl (.inl rfl) rfl (QV rfl) (dA rfl) (show((C++D.map Rest.id).map I).length+1<=1000000000 from Aa) ?_|refine zS ?_|refine zl (λhlt=>?_) (λhlt=>?_))
   all_goals conv=>whnf
   refine⟨(D++[c],R),?_,Ae,Ad⟩;unfold gE7;simp only[QY,Rj,Rt,RH,SY,<-Tn];exact zj
  |nil=>
   have a:e.rests.length=D.length:=Ae;have f:e.rests=D:=Ae;rw[f]at b;rw[b];exact NI
theorem fJ1:∀ l used,dP used l↔(∀x∈l,x∉used)/\l.Pairwise (·≠·)
 | [],used=>⟨λ_=>⟨λx hx=>H8, .nil⟩,λ_=>trivial⟩
 |n::r,used=>by
  show(n∉used/\dP (putN used n) r)↔_;rw[fJ1 r (putN used n),S9];constructor;rintro⟨a,b,c⟩;refine⟨λx hx=>?_,λx hx e=>?_,c⟩;rcases Rl.1 hx with rfl|hx;exact a;exact λq=>b x hx (fH.2 (.inr q));exact b x hx (fH.2 (.inl e.symm));rintro⟨a,b,c⟩;refine⟨a n Ad,λx hx q=>?_,c⟩;rcases fH.1 q with q|q;exact b x hx q.symm;exact a x BI q
def fP6:∀ {l m:List Int},l.Pairwise (·<·)->m.Pairwise (·<·)->(∀x,x∈l↔x∈m)->l=m
 | [],[],_,_,_=>rfl
 | [],y::m,_,_,h=>by have:=(h y).2 Ad;cases this
 |x::l,[],_,_,h=>by have:=(h x).1 Ad;cases this
 |x::l,y::m,e,f,h=>by
  let⟨c,g⟩:=S9.1 e;let⟨d,i⟩:=S9.1 f
  have a:x=y:=by
   rcases Rl.1 ((h x).1 Ad)with q|q;exact q;rcases Rl.1 ((h y).2 Ad)with b|b;exact b.symm;have:=d x q;have:=c y b;omega
  subst a;rw[fP6 g i λz=>?_];constructor;intro hz;rcases Rl.1 ((h z).1 IA)with q|q;have:=c z hz;omega;exact q;intro hz;rcases Rl.1 ((h z).2 IA)with q|q;have:=d z hz;omega;exact q
theorem fL1:∀ {l used} {y},y∈cO used l↔y∈used\/y∈l
 | [],used,y=>⟨.inl,λh=>h.elim id (λh=>Ah)⟩
 |n::r,used,y=>by
  show y∈cO (putN used n) r↔_;rw[fL1 (l:=r),Rl,show(y∈putN used n↔y=n\/y∈used)from fH];grind
theorem gB2 used a b:cO used (a++b)=cO (cO used a) b:=by unfold cO;rw[TR]
def fU5(h:dP used (a++b)):dP used (b++a):=by
 grind [fJ1]
def fZ3(e:(used.map id).Pairwise (·<·))(h:dP used (a++b)):cO used (a++b)=cO used (b++a):=by
 have c:=(aA8 _ _ e h).1;have d:=(aA8 _ _ e (fU5 h)).1;rw[List.map_id]at c d;refine fP6 c d λx=>?_;rw[fL1,fL1,Rh,Rh];constructor<;>(rintro(q|q|q)<;>simp[q])
def fF9:∀ {l:List f} {n},(l.map key).Pairwise (·<·)->(∃m∈l,key m=n)->aC2 key l n=bs key l n:=fun {l n} d b=>by
 let⟨m,e,g⟩:=aB8 d b;have j:=(QW.1 e).1;have c:=(QW.1 e).2
 have a:l=l.take (bs key l n)++m::l.drop (bs key l n+1):=by
  rw[<-c,List.getElem_cons_drop,SG]
 have i:∀x∈l.take (bs key l n),key x≠n:=λx k=>by
  rw[a,RH,Rt,Si]at d;have:=d.2.2 (key x) (RD k) (key m) Ad;omega
 have:=fI9 (R:=l.drop (bs key l n+1)) i g;rw[<-a,Rk]at this;rw[this];omega
def fZ8 x:∀ D  s,(∀r∈D,sid (dZ x r)=r.id)->fH1 s x D={s with stocks:=(D.map (dZ x)).foldl putS s.stocks,used:=cO s.used (D.map Rest.id)}
 | [],s,_=>rfl
 |r::D,s,h=>by
  show fH1 (addQ s (dZ x r)) x D=_;rw[fZ8 x D _ (λq a=>h q (by simp[a]))];unfold addQ;rw[h r Ad];rfl
theorem gB8 e x:∀ D  s,mkQs s e x D={s with pieces:=D.foldl (λp c=>putP p (fZ e x c)) s.pieces,used:=cO s.used (D.map Made.id)}
 | [],s=>rfl
 |c::D,s=>by
  show mkQs (mkQ s (fZ e x c)) e x D=_;rw[gB8 e x D];rfl
def fI0 x:∀ R D,cZ x D R=0->∀r∈R,iG x r=0
 | [],D,_,r,a=>by cases a
 |q::R,D,h,r,a=>by
  classical
  unfold cZ at h;split at h;rename_i b;exact absurd h b;rename_i b;split at h;cases h;rcases Rl.1 a with rfl|a;exact SN.1 b;exact fI0 x R _ h r a
def gH7(g:(s.used.map id).Pairwise (·<·))(b:cZ x [] e.rests=0)(f:dP s.used (fO e)):finQ s k x e=cut4 s e k x (eG x e.rests) e.cuts:=by
 have c:eG x e.rests=e.rests.map (dZ x):=by unfold eG;rw[QU b]
 have d:cO (cO s.used (e.rests.map Rest.id)) (e.cuts.map Made.id)=cO s.used (fO e):=by
  rw[<-gB2];exact(fZ3 g f).symm
 unfold finQ;rw[fZ8 x e.rests _ (λr a=>cL1 (fI0 x _ _ b r a)),gB8,c];unfold cut4 cut3 cut2 cut1;simp only;rw[d]
def fN3:∀ {l:List Int},(∀c∈l,0<=c)->0<=l.sum
 | [],_=>TB _
 |c::l,h=>by
  have a:=h c Ad;have b:=fN3 (l:=l) (λx hx=>h x BI);rw[Sv];omega
def gI9(a: -1<=n)(b:n<=1000000000000000000)(d:0<=c):sub1 n c=if 0<=n/\c<=n then n-c else-1:=by
 unfold sub1;rw[lH,w_in (n:=n+1) Aa];split;rw[w_in Aa];omega;rw[w_in Aa];omega
def fP3:∀ l  n,-1<=n->n<=1000000000000000000->(∀c∈l,0<=c)->subL n l=if 0<=n/\l.sum<=n then n-l.sum else-1
 | [],n,a,b,_=>by
   show n=_;rw[List.sum_nil];split<;>omega
 |c::l,n,a,b,h=>by
  have d:=h c Ad;have e:=fN3 (l:=l) (λx hx=>h x BI);show subL (sub1 n c) l=_;rw[gI9 a b d,Sv];split;rw[fP3 l _ Aa Aa (λx hx=>h x BI)];split<;>split<;>omega;rw[fP3 l _ Aa Aa (λx hx=>h x BI)];split<;>split<;>omega
def fU4(e:0<=z)(a:z<=1000000000000000000):∀ l  n,0<=n->(∀c∈l,1<=c.size)->(fG3 z n l=0↔n+(l.map Made.size).sum=z)
 | [],n,d,_=>by
   show(if n=z then(0:Int)else 29)=0↔n+0=z;split<;>omega
 |c::l,n,d,h=>by
  have f:=h c Ad;have g:=fN3 (l:=l.map Made.size) (λx hx=>by obtain⟨m,b,rfl⟩:=Rn.1 hx;have:=h m (by simp[b]);omega);show(if z<c.size\/z<n then(29:Int)else fG3 z (W (n+c.size)) l)=0↔_;rw[Rt,Sv];split;constructor;intro q;omega;intro q;omega;rw[w_in Aa,fU4 e a l _ Aa (λx hx=>h x BI)];omega
def fU9 x:∀ D (n:Int),-1000000000000000<=n->n+D.length*100000000000000<=9000000000000000000->(∀r∈D,0<=gG (dZ x r)/\gG (dZ x r)<=100000000000000)->sumQ n x D=n+(D.map λr=>gG (dZ x r)).sum
 | [],n,_,_,_=>by show n=n+0;omega
 |r::D,n,c,a,h=>by
  have d:=h r Ad;rw[Ro]at a;show sumQ (W (n+gG (dZ x r))) x D=_;rw[w_in Aa,fU9 x D _ Aa (by push_cast at a;omega) (λq b=>h q (by simp[b])),Rt,Sv];omega
def gE9(k:0<=gG x)(n:gG x<=100000000000000)(j:0<=e.scrap)(hc:∀c∈e.cuts,1<=c.size)(s:e.rests.length<=10000)(f:cZ x [] e.rests=0)
 (hr:∀r∈e.rests,0<=gG (dZ x r)/\gG (dZ x r)<=100000000000000):fG3 (gG x) (sumQ (begQ x e) x e.rests) e.cuts=0↔nJ x e=e.scrap:=by
 have i:begQ x e=min e.scrap (gG x+1):=by unfold begQ;rw[lH,w_in (by omega)]
 have g:eG x e.rests=e.rests.map (dZ x):=by unfold eG;rw[QU f]
 have q:=fN3 (l:=e.rests.map λr=>gG (dZ x r)) (λy hy=>CW);have o:=fN3 (l:=e.cuts.map Made.size) (λy hy=>CQ);rw[i,fU9 x e.rests _ Aa Aa hr,fU4 k Aa e.cuts _ Aa hc];unfold nJ;have hi:=fP3 (e.cuts.map Made.size) (gG x) Aa Aa (λy hy=>CQ);rw[g,TI,show(gG∘dZ x)=(λr=>gG (dZ x r))from rfl,hi];clear hi;have d:∀c∈(e.rests.map λr=>gG (dZ x r)),0<=c:=λy hy=>CW;generalize (e.rests.map λr=>gG (dZ x r))=L at*;rw[fP3 L _ (by split<;>omega) (by split<;>omega) d];generalize L.sum=a at*;generalize (e.cuts.map Made.size).sum=b at*;split
 ·split<;>omega
 ·split<;>omega
theorem fP5:∀ l  n,-1000000000000000<=n->n<0->(∀c∈l,0<=c)->subL n l<0
 | [],n,_,h,_=>h
 |c::l,n,b,d,hc=>by
  have e:subL n (c::l)=subL (sub1 n c) l:=rfl
  have a:sub1 n c= -1:=by
   exact QT
  simp_all [fP5]
def gH2(A: -100000000000000<=gG x)(i:gG x<0)(q:0<=e.scrap)(hc:∀c∈e.cuts,1<=c.size)(z:e.rests.length<=10000)(g:cZ x [] e.rests=0)
 (hr:∀r∈e.rests,0<=gG (dZ x r)/\gG (dZ x r)<=100000000000000):fG3 (gG x) (sumQ (begQ x e) x e.rests) e.cuts=0↔nJ x e=e.scrap:=by
 have o:begQ x e=gG x+1:=by unfold begQ;rw[lH,w_in (by omega)];exact Int.min_eq_right (by omega)
 have k:eG x e.rests=e.rests.map (dZ x):=by unfold eG;rw[QU g]
 have w:=fN3 (l:=e.rests.map λr=>gG (dZ x r)) (λy hy=>CW);rw[o,fU9 x e.rests _ Aa Aa hr]
 have v:nJ x e<0:=by
  unfold nJ;have s:subL (gG x) (e.cuts.map Made.size)<0:=fP5 _ _ Aa i (λy hy=>CQ)
  have t: -1000000000000000<=subL (gG x) (e.cuts.map Made.size):=by
   cases b:e.cuts with
   |nil=>show-1000000000000000<=gG x;omega
   |cons c l=>
    have key:∀ l  n ,-1<=n->n<0->(∀c∈l,0<=c)->-1<=subL n l:=by
     intro l;induction l with
     |nil=>exact λn h _ _=>h
     |cons c l B=>
      intro n k u hc
      have j:sub1 n c= -1:=by
       exact QT
      show-1<=subL (sub1 n c) l;simp_all
    rw[b]at hc;have f:=hc c (SQ ..)
    have j:sub1 (gG x) c.size= -1:=by
     grind [lH,Int.min_eq_right,sub1,w_in,gG]
    show-1000000000000000<=subL (sub1 (gG x) c.size) (l.map Made.size);grind
  simp_all [fP5,Rn]
 refine⟨λh=>?_,λh=>Aa⟩;exfalso;generalize (e.rests.map λr=>gG (dZ x r)).sum=a at*;cases b:e.cuts with
 |nil=>
  rw[b]at h;have d:(if gG x+1+a=gG x then(0:Int)else 29)=0:=h;rw[Q9 Aa]at d;cases d
 |cons c l=>
  have f:=hc c (by rw[b];exact SQ ..);rw[b]at h;have d:(if gG x<c.size\/gG x<gG x+1+a then(29:Int)else fG3 (gG x) (W (gG x+1+a+c.size)) l)=0:=h;rw[QU Aa]at d;cases d
theorem fH6(h:iD e):appR s e=bP2 s e:=QU h
def gA3(h:iD e)(d:e.kind≠1)(f:e.kind≠2)(c:e.kind≠5):idsR e=[] :=by
 let⟨a,b,_⟩:=h.2.2.1 c;simp_all [RS,Q9,idsR,fO]
def gH5(h:iD e)(hd:¬dP s.used (idsR e)):appR s e=(inv0,7):=by
 rw[fH6 h];by_cases a:e.kind=1;have hi:idsR e=[e.sheet.id] :=QU a;rw[hi]at hd;unfold bP2 nM;rw[QU a];exact Q8;by_cases b:e.kind=2;have hi:idsR e=[e.bar.id] :=(Q9 a).trans (QU b);rw[hi]at hd;unfold bP2 nM;rw[Q9 a,QU b];exact Q8;by_cases c:e.kind=5;have hi:idsR e=fO e:=(Q9 a).trans (Q9 b);rw[hi]at hd;unfold bP2 cutR;simp_all;rw[gA3 h a b c]at hd;exact absurd trivial hd
def app1(h:iD e)(b:e.kind=1)(a:dP s.used (idsR e)):appR s e=(aX7 s ⟨false,e.sheet,bar0,aI⟩,0):=by
 have hi:idsR e=[e.sheet.id] :=QU b;rw[hi]at a;rw[fH6 h];unfold bP2 nM;rw[QU b];exact Q9 a.1
def app2(h:iD e)(b:e.kind=2)(a:dP s.used (idsR e)):appR s e=(aX7 s ⟨true,dN,e.bar,aI⟩,0):=by
 have hi:idsR e=[e.bar.id] :=(Q9 Aa).trans (QU b);rw[hi]at a;rw[fH6 h];unfold bP2 nM;rw[Q9 Aa,QU b];exact Q9 a.1
def app3(h:iD e)(k:e.kind=3):appR s e=relR s e:=by
 simp_all [fH6,Q9,QU,bP2]
def app4(h:iD e)(k:e.kind=4):appR s e=bP3 s e:=by
 simp_all [fH6,Q9,QU,bP2]
def app8(h:iD e)(k:e.kind=8):appR s e=bQ0 s e:=by
 simp_all [fH6,Q9,bP2]
def app6(h:iD e)(k:e.kind=6):appR s e=nK s e.id 2 aI:=by
 simp_all [fH6,Q9,QU,bP2]
def app7(h:iD e)(k:e.kind=7):appR s e=nK s e.id 3 e.text:=by
 simp_all [fH6,Q9,QU,bP2]
def gI5(u:(s.used.map id).Pairwise (·<·))(t:dP s.used (fO e))(f:nY e)(v: -100000000000000<=gG m)(j:gG m<=100000000000000)
 (o:∀r∈e.rests,iG m r=0->0<=gG (dZ m r)/\gG (dZ m r)<=100000000000000):
 cutQ s k m e=if cZ m [] e.rests≠0 then(inv0,cZ m [] e.rests)else if nJ m e≠e.scrap then(inv0,29)else(cut5 s e k m,0):=by
 let⟨l,w,x,y,n,z⟩:=f;unfold cutQ;by_cases d:cZ m [] e.rests≠0
 ·rw[QU d,QU d]
 ·rw[Q9 d,Q9 d]
  have a:=SN.1 d
  have hi:fG3 (gG m) (sumQ (begQ m e) m e.rests) e.cuts=0↔nJ m e=e.scrap:=by
   by_cases i:0<=gG m;exact gE9 i j n (λc f=>(l c f).2.2) Aa a (λr b=>o r b (fI0 m _ _ a r b));exact gH2 v Aa n (λc f=>(l c f).2.2) Aa a (λr b=>o r b (fI0 m _ _ a r b))
  by_cases g:nJ m e=e.scrap
  ·rw[Q9 (λq=>q (hi.2 g)),Q9 (λq=>q g),gH7 u a t]
   rfl
  ·rw[QU (λq=>g (hi.1 q)),QU g]
open Classical in
def app5(h:iD e)(k:e.kind=5)(l:(s.used.map id).Pairwise (·<·))(c:dP s.used (idsR e))
 (i:∀m∈s.stocks,-100000000000000<=gG m/\gG m<=100000000000000/\∀r∈e.rests,iG m r=0->0<=gG (dZ m r)/\gG (dZ m r)<=100000000000000):
 appR s e=aD6 s e.id λm=>if m.program≠aI then cutQ s (bs sid s.stocks e.id) m e else(inv0,10):=by
 have hi:idsR e=fO e:=(Q9 Aa).trans (Q9 Aa);rw[hi]at c;rw[fH6 h];unfold bP2 cutR;rw[Q9 Aa,Q9 Aa,Q9 Aa,Q9 Aa,QU k,Q9 (λq=>q c)];unfold aD6;by_cases a:∃m∈s.stocks,sid m=e.id
 ·rw[QU a,QU a]
  cases j:s.stocks[bs sid s.stocks e.id]? with
  |none=>rfl
  |some m=>
   simp only;let⟨d,f,g⟩:=i m (QZ j);by_cases b:m.program=aI;rw[QU b,Q9 (λq=>q b)];rw[Q9 b,QU b];exact(gI5 l c (h.2.2.2.2.2.2.2.1 k) d f g).symm
 ·rw[Q9 a,Q9 a]
end Go.Proofs.Led
