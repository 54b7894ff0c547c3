/-
  Names and bars of the reference.
-/
import Derived.Test.YtdjgbagnajikeaaGreatDoorB10
import Derived.Test.YtdjgbagnajikeaaGreatDoorB6
set_option linter.unusedVariables false
set_option linter.unusedSimpArgs false
set_option maxRecDepth 100000
set_option maxHeartbeats 8000000
noncomputable section
namespace Go.Proofs.Led
open Go Go.Proofs Go.Ab
theorem cZ1(c:Int):fnVC T Tryz.prog Tryz.f146 [U c] (.lit (.bool (decB (jA c)))):=by
 repeat' ((conv=>whnf);first|refine zS ?_|refine zT ?_ ?_<;>intro _|fail)
 all_goals conv=>whnf
 all_goals refine aA ?_
 all_goals first
  |exact fE G7
  |(refine le_dec ?_;unfold jA;omega)
  |exact aC G7
theorem aO8(c:Int):Sp 146 [U c] (.lit (.bool (decB (jA c)))):=zsp Tryz.func146 (cZ1 c)
theorem dP4(c:Int):fnVC T Tryz.prog Tryz.f192 [U c] (.lit (.bool (decB (isDigit c)))):=by
 repeat' ((conv=>whnf);first|refine zS ?_|refine zT ?_ ?_<;>intro _|fail)
 all_goals conv=>whnf
 all_goals refine aA ?_
 all_goals first
  |(refine le_dec ?_;unfold isDigit;omega)
  |exact aC (by unfold isDigit;omega)
theorem cH4(c:Int):Sp 192 [U c] (.lit (.bool (decB (isDigit c)))):=zsp Tryz.func192 (dP4 c)
theorem dS9(s:ByteArray)(n:s.size<=1000000000):fnVC T Tryz.prog Tryz.f147 [S s,I 0] (I (whS fG s 0)):=by
 repeat' ((conv=>whnf);first|refine zS ?_|fail)
 refine lD (A:=Nat) (λk=>mkSt [(0,S s),(1,I 0),(5,I k)] [] []) (λk=>k<=s.size/\whS fG s k=whS fG s 0) (λk=>s.size-k) 0 ?_ ⟨RI _,rfl⟩ (λk hk=>?_)
 ·exact zj
 ·obtain⟨m,hk⟩:=hk
  rcases RX k s.size with hlt|l
  ·obtain⟨f,i⟩:∃f,s.size-k=f+1:=⟨s.size-k-1,Aa⟩
   have hks:whS fG s k=wh (λj=>decB (fG (byteAt s j))) (f+1) k:=by unfold whS;rw[i]
   have e:((0:Int)+k).toNat=k:=Aa;have c:byteAt s ((0:Int)+k).toNat=byteAt s k:=by rw[e]
   have a:fG (byteAt s k)->whS fG s (k+1)=whS fG s 0:=λh=>by
    rw[<-hk,hks,dG8 (dH.2 h)];unfold whS;rw[show s.size- (k+1)=f from Aa]
   have stop:¬fG (byteAt s k)->(k:Int)=whS fG s 0:=λh=>by
    rw[<-hk,hks,dE4 (dW.2 h)]
   repeat' ((conv=>whnf);first|omega|refine zc (aO8 (byteAt s ((0:Int)+k).toNat)) ?_|refine zc (cH4 (byteAt s ((0:Int)+k).toNat)) ?_|refine zS ?_|refine zd (λd=>?_) (λd=>?_)|refine zl (λhlt=>?_) (λhlt=>?_)|refine ze (λb=>?_) (λb=>?_))
   all_goals rw[c]at*
   ·conv=>whnf
    refine⟨k+1,?_,⟨Aa,a (.inl d)⟩,Aa⟩;exact zj
   ·conv=>whnf
    refine⟨k+1,?_,⟨Aa,a (.inr (.inl d))⟩,Aa⟩;exact zj
   ·conv=>whnf
    refine⟨k+1,?_,⟨Aa,a (.inr (.inr b))⟩,Aa⟩;exact zj
   ·conv=>whnf
    refine aG (stop ?_);rename_i g;rintro(h|h|h)
    ·exact g h
    ·exact d h
    ·exact b h
  ·have hks:whS fG s k=k:=by unfold whS;rw[show s.size-k=0 from Aa];rfl
   exact Pe
theorem cO5(s:ByteArray)(a:s.size<=1000000000):Sp 147 [S s,I 0] (I (whS fG s 0)):=zsp Tryz.func147 (dS9 s a)
theorem dX9(s:ByteArray):fnVC T Tryz.prog Tryz.f108 [S s] (.lit (.bool (decB (iM s)))):=by
 rcases RX 16 s.size with b|hsm
 ·repeat' ((conv=>whnf);first|omega|refine zS ?_|refine zk (λa=>?_) (λa=>?_))
  all_goals conv=>whnf
  all_goals refine aA ?_
  all_goals exact aC (λh=>by have:=h.2.1;omega)
 ·repeat' ((conv=>whnf);first|refine cK2 ⟨Aa,Aa⟩ ?_|refine zc (aO8 (byteAt s 0)) ?_|refine zc (cO5 s Aa) ?_|omega|refine zS ?_|refine zd (λhd=>?_) (λhd=>?_)|refine zk (λa=>?_) (λa=>?_))
  ·conv=>whnf
   refine aA (sK ?_);have hw:=cV4 (λj=>decB (fG (byteAt s j))) s.size 0;have hs0:whS fG s 0=wh (λj=>decB (fG (byteAt s j))) s.size 0:=rfl
   exact Oh
  ·conv=>whnf
   exact aA (aC (λh=>hd h.2.2.1))
  ·conv=>whnf
   exact aA (aC (λh=>by have:=h.1;omega))
theorem bD8(s:ByteArray):Sp 108 [S s] (.lit (.bool (decB (iM s)))):=zsp Tryz.func108 (dX9 s)
theorem fK9(id:Int)(g h:ByteArray):Sp 177 [I id,S g,S h] (DB (kZ id g h)):=by
 refine zsp Tryz.func177 ?_;have b:=bD8 g;have c:=bD8 h
 have a:kZ id g h↔1<=id/\id<=1000000/\iM g/\iM h:=RN;generalize kZ id g h=P at*;generalize iM g=d at*;generalize iM h=e at*
 repeat' ((conv=>whnf);first|refine zc b ?_|refine zc c ?_|refine zS ?_|refine zT ?_ ?_<;>intro _|fail)
 all_goals conv=>whnf
 all_goals first
  |exact aA (fQ ⟨λh=>a.2 ⟨Aa,Aa,Ag,h⟩,λh=>(a.1 h).2.2.2⟩)
  |exact aA (aC (λh=>by have:=a.1 h;omega))
  |exact aA (aC (λh=>absurd (a.1 h).2.2.1 Ag))
  |exact aA (le_dec ⟨λh=>Aa,λh=>by have:=a.1 h;omega⟩)
theorem fR3(b:Bar)(j:b.defects.length<=9223372036854775807):Sp 131 [barV b] (DB (fM b)):=by
 refine zsp Tryz.func131 ?_;have i:=fK9 b.id b.grade b.heat;have k:(b.defects.map ivV).length=b.defects.length:=Af
 have f:fM b↔kZ b.id b.grade b.heat/\1<=b.length/\b.length<=2000/\b.defects.length<=6/\sU b.length 0 b.defects:=RN;generalize fM b=P at*;generalize kZ b.id b.grade b.heat=m at*
 repeat' ((conv=>whnf);first|refine zc i ?_|refine zS ?_|refine zT ?_ ?_<;>intro _|fail)
 all_goals conv=>whnf
 all_goals first
  |exact aA (aC (λh=>by have:=f.1 h;omega))
  |exact aA (aC (λh=>absurd (f.1 h).1 Ag))
  |skip
 have g:P↔sU b.length 0 b.defects:=⟨λh=>(f.1 h).2.2.2.2,λh=>f.2 ⟨Ag,Aa,Aa,Aa,h⟩⟩;clear f;refine oU (A:=Int) (B:=List Iv) (C:=List Iv) (λe D R=>mkSt [(1, .box 1 0),(3,I e),(4,I D.length)] [(1,barC b)] []) (λe D R=>b.defects=D++R/\(P↔sU b.length e R)) (λe D R=>R.length) 0 [] b.defects ?_ ⟨rfl,g⟩ (λe D R hp=>?_)
 ·exact zj
 obtain⟨hp,g⟩:=hp
 cases R with
 |nil=>
  have c:b.defects.length=D.length:=Ae;clear hp
  repeat' ((conv=>whnf);first|omega|refine zS ?_|refine zT ?_ ?_<;>intro _|fail)
  all_goals conv=>whnf
  exact aA (fE (g.2 trivial))
 |cons d R=>
  have c:=aO hp;have a:P↔e<=d.1/\d.1<d.2/\d.2<=b.length/\sU b.length d.2 R:=g
  repeat' ((conv=>whnf);first|omega|refine aB (l:=b.defects) Aa ?_|refine aF (l:=b.defects) (A:=D) (x:=d) (B:=R) hp Aa ?_|refine zS ?_|refine zT ?_ ?_<;>intro _|fail)
  all_goals conv=>whnf
  all_goals first
   |exact aA (aC (λh=>by have:=a.1 h;omega))
   |skip
  refine⟨(d.2,D++[d],R),?_,⟨Ae,⟨λh=>(a.1 h).2.2.2,λh=>a.2 ⟨Aa,Aa,Aa,h⟩⟩⟩,Af⟩;exact Nj
theorem gE5(b:Bx)(v:Vc)(a:b.1.1<=b.2.1)(c:b.1.2<=b.2.2):(dQ (gU b v).1/\dQ (gU b v).2)↔(dQ b.1/\dQ b.2)/\dQ v:=by
 unfold dQ gU;simp only;constructor
 ·grind
 ·omega
theorem fS9:∀(l:List Vc) (b:Bx),b.1.1<=b.2.1->b.1.2<=b.2.2->((dQ (l.foldl gU b).1/\dQ (l.foldl gU b).2)↔(dQ b.1/\dQ b.2)/\∀v∈l,dQ v)
 | [],b,_,_=>⟨λh=>⟨h,λv hv=>by cases hv⟩,λh=>h.1⟩
 |v::l,b,a,c=>by
  rw[RY,fS9 l (gU b v) (by unfold gU;simp only;omega) (by unfold gU;simp only;omega),gE5 b v a c]
  grind
theorem fX1{s:Sh}(h:bG s):(dQ (boxS s).1.1/\dQ (boxS s).1.2)↔∀v∈s.outer,dQ v:=by
 have a:dM s.outer:=h.2.1 _ AQ;rw[eG7 h,dX3 a];have b:=a.1
 generalize s.outer=r at*
 cases r with
 |nil=>exact absurd b Af
 |cons v l=>
  show dQ (((v::l).foldl gU (v,v))).1/\dQ (((v::l).foldl gU (v,v))).2↔_;rw[fS9 (v::l) (v,v) (U2 _) (U2 _)];simp_all
theorem fJ2(s:Sh)(b:Fits s):Sp 178 [shV s] (DB (jV s)):=by
 by_cases h:bG s
 ·exact fE6 s (iT h)
 ·rw[dbF (λq:jV s=>h q.1)]
  have a:=fQ3 s b;rw[dbF h]at a;refine zsp Tryz.func178 ?_
  repeat' ((conv=>whnf);first|(exfalso;contradiction)|refine zc a ?_|refine zS ?_|refine zm (λx c=>?_)|refine zT ?_ ?_<;>intro _|fail)
  all_goals exact zE
theorem fP7(s:jL)(S:tN s):Sp 129 [zJ s] (DB (dB s)):=by
 refine zsp Tryz.func129 ?_;obtain⟨J,T,K⟩:=S;have N:=fK9 s.id s.grade s.heat;have y:=fJ2 s.shape J
 by_cases j:jV s.shape;rotate_left
 ·rw[dbF (λq:dB s=>j q.2.2.2.1)]
  rw[dbF j]at y
  repeat' ((conv=>whnf);first|refine zc N ?_|refine zc y ?_|refine zS ?_|refine zT ?_ ?_<;>intro _|fail)
  all_goals exact zE
 have u:=iT j.1;have L:=j.1
 rw[dbT j]at y
 have m:dB s↔kZ s.id s.grade s.heat/\0<=s.grain/\s.grain<=2/\jV s.shape/\s.defects.length<=6/\(dQ (boxS s.shape).1.1/\dQ (boxS s.shape).1.2)/\∀d∈s.defects,qQ s.shape d:=
  ⟨λ⟨a,b,c,d,e,f,g,h⟩=>⟨a,b,c,d,e,⟨f,g⟩,h⟩,λ⟨a,b,c,d,e,⟨f,g⟩,h⟩=>⟨a,b,c,d,e,f,g,h⟩⟩
 have F:((dQ (boxS s.shape).1.1/\dQ (boxS s.shape).1.2)↔∀v∈s.shape.outer,dQ v):=fX1 L;have U:(s.defects.map shV).length=s.defects.length:=Af
 have Q:(s.shape.outer.map vcV).length=s.shape.outer.length:=Af;have V:=u.1
 have G:∀d,qQ s.shape d↔jV d/\pO s.shape d=0/\lI s.shape d:=λd=>RN;generalize dB s=P at*;generalize kZ s.id s.grade s.heat=X at*;generalize (dQ (boxS s.shape).1.1/\dQ (boxS s.shape).1.2)=Y at*
 repeat' ((conv=>whnf);first|refine zc N ?_|refine zc y ?_|refine zS ?_|refine zT ?_ ?_<;>intro _|fail)
 all_goals conv=>whnf
 all_goals first
  |exact aA (aC (λh=>absurd (m.1 h).1 Ag))
  |exact aA (aC (λh=>by have:=(m.1 h).2.1;have:=(m.1 h).2.2.1;have:=(m.1 h).2.2.2.2.1;omega))
  |skip
 have C:P↔(∀v∈s.shape.outer,dQ v)/\∀d∈s.defects,qQ s.shape d:=⟨λh=>⟨F.1 (m.1 h).2.2.2.2.2.1,(m.1 h).2.2.2.2.2.2⟩,λh=>m.2 ⟨Ag,Aa,Aa,Ag,Aa,F.2 h.1,h.2⟩⟩;clear m F;refine aU (A:=List Vc) (B:=List Vc) (λD R=>mkSt [(1, .box 1 0),(3,I D.length)] [(1,aA7 s)] []) (λD R=>s.shape.outer=D++R/\∀v∈D,dQ v) (λD R=>R.length) [] s.shape.outer ?_ ⟨rfl,Af⟩ (λD R hp=>?_)
 ·exact zj
 obtain⟨hp,hD⟩:=hp
 cases R with
 |cons v R=>
  have k:=aO hp;have M:v∈s.shape.outer:=Ae
  have E:=fF5 v;have r:dQ v->∀z∈D++[v],dQ z:=λh z hz=>Jf
  have t:¬dQ v->¬P:=λh q=>h ((C.1 q).1 v M);generalize dQ v=W at*
  repeat' ((conv=>whnf);first|omega|refine aB (l:=s.shape.outer) Aa ?_|refine aF (l:=s.shape.outer) (A:=D) (x:=v) (B:=R) hp Aa ?_|refine zc E ?_|refine zS ?_|refine zT ?_ ?_<;>intro _|fail)
  all_goals conv=>whnf
  all_goals first
   |exact aA (aC (t Ag))
   |skip
  refine⟨(D++[v],R),?_,⟨Ae,r Ag⟩,Af⟩;exact Nj
 |nil=>
 have k:s.shape.outer.length=D.length:=Ae;have n:P↔∀d∈s.defects,qQ s.shape d:=⟨λh=>(C.1 h).2,λh=>C.2 ⟨λv hv=>FX,h⟩⟩
 clear C
 repeat' ((conv=>whnf);first|omega|refine zS ?_|refine zT ?_ ?_<;>intro _|fail)
 refine aU (A:=List Sh) (B:=List Sh) (λD R=>mkSt [(1, .box 1 0),(4,I D.length)] [(1,aA7 s)] []) (λD R=>s.defects=D++R/\∀d∈D,qQ s.shape d) (λD R=>R.length) [] s.defects ?_ ⟨rfl,Af⟩ (λD R hp=>?_)
 ·exact zj
 obtain⟨hp,hD⟩:=hp
 cases R with
 |nil=>
  have k:s.defects.length=D.length:=Ae
  repeat' ((conv=>whnf);first|omega|refine zS ?_|refine zT ?_ ?_<;>intro _|fail)
  all_goals conv=>whnf
  refine aA (fE (n.2 λd h=>?_));rw[hp,Rn]at h;exact hD d h
 |cons d R=>
  have k:=aO hp;have o:d∈s.defects:=Ae
  have w:=fJ2 d (K d o);have H:=G d
  by_cases i:jV d;rotate_left
  ·rw[dbF i]at w
   repeat' ((conv=>whnf);first|omega|refine aB (l:=s.defects) Aa ?_|refine aF (l:=s.defects) (A:=D) (x:=d) (B:=R) hp Aa ?_|refine zc w ?_|refine zS ?_|refine zT ?_ ?_<;>intro _|fail)
   all_goals conv=>whnf
   exact aA (aC (λh=>i (H.1 (n.1 h d o)).1))
  rw[dbT i]at w;have E:=fG0 s.shape d u (iT i.1);have O:jV d->lI s.shape d->pO s.shape d=0:=λ_ h=>QO ⟨h.1,h.2.1⟩
  generalize pO s.shape d=Z at*;generalize lI s.shape d=q3 at*
  repeat' ((conv=>whnf);first|omega|refine aB (l:=s.defects) Aa ?_|refine aF (l:=s.defects) (A:=D) (x:=d) (B:=R) hp Aa ?_|refine zc E ?_|refine zc w ?_|refine zS ?_|refine zT ?_ ?_<;>intro _|fail)
  all_goals conv=>whnf
  all_goals first
   |exact aA (aC (λh=>absurd (H.1 (n.1 h d o)).2.2 Ag))
   |skip
  refine⟨(D++[d],R),?_,⟨Ae,λz hz=>?_⟩,Af⟩
  ·exact IE
  ·rcases QX.1 hz with hz|hz
   ·exact hD z hz
   ·rw[QW.1 hz]
    exact H.2 ⟨i,O i Ag,Ag⟩
theorem fS4(s:jL)(a:lK s):Sp 129 [zJ s] (DB (dB s)):=fP7 s (fits_sized a)
theorem fR1{p q:Vc}(h:RB p.1 p.2 q.1 q.2):sV p q=rS p.1 p.2 q.1 q.2:=by
 obtain⟨a,b,c,d,e,f⟩:=h;unfold sV;rw[Q5]
 ·rfl
 ·rintro(h|h|h|h)
  ·omega
  ·omega
  ·exact h (qN Aa Aa Aa Aa Aa)
  ·exact h (qN Aa Aa Aa Aa Aa)
theorem fO0{x:Bx}{v:Vc}(h:RB (x.1.1-v.1) (x.1.2-v.2) (x.2.1-v.1) (x.2.2-v.2)):sV (vsub x.1 v) (vsub x.2 v)=jT x v:=by
 have a:=h;rw[cL4 h];obtain⟨b,c,d,e,f,g⟩:=h;rw[kN ⟨Aa,Aa⟩ ⟨Aa,Aa⟩,kN ⟨Aa,Aa⟩ ⟨Aa,Aa⟩];exact fR1 a
def fG1(s:jL)(b:Bx)(id:Int)(r:Sh)(X:List Sh)(n:Int):St:=match X with
 | [] =>mkSt [(3, .box 3 0),(4, .box 4 0),(6, .box 6 0),(7,I 0),(10, .box 10 0),(11,I n)]
   [(3,aA7 s),(4,(bxV b).cells),(6,[I 0,S aI,S aI,I 0,nilV,nilV,nilV]),(10,[I id,S s.grade,S s.heat,I s.grain,rgV r.outer, .sl (r.holes.map rgV),nilV])] []
 |x::X=>mkSt [(3, .box 3 0),(4, .box 4 0),(6, .box 6 0),(7,I 0),(10, .box 10 0),(11,I n)]
  [(3,aA7 s),(4,(bxV b).cells),(6,[I 0,S aI,S aI,I 0,nilV,nilV,nilV]),(10,[I id,S s.grade,S s.heat,I s.grain,rgV r.outer, .sl (r.holes.map rgV), .arr 156 X.length])] [(156,⟨X.length, .own,78,(x::X).map shV⟩)]
theorem fP0(s:jL)(b:Bx)(id:Int)(L:lK s):Sp 186 [zJ s,bxV b,I id] (.tup [zJ (remS s b id),I (remE s b id)]):=by
 refine zsp Tryz.func186 ?_;have K:=fS4 s L;have O:=fF5 b.1
 have P:=fF5 b.2;have Q:=fH3 b.1 b.2
 have S:=fG0 s.shape (sV b.1 b.2) L.1 (cW6 b.1 b.2);have h8:=fD b.2 b.1
 have Z:=fH3 (0,0) (vsub b.2 b.1);have F:nC id↔1<=id/\id<=1000000:=RN
 have hw:xH b↔b.1.1<b.2.1/\b.1.2<b.2.2:=RN;by_cases c1:dB s;rotate_left
 ·have e1:remE s b id=1:=by unfold remE;rw[QO c1]
  have t:remS s b id=dN:=Bg;rw[e1,t]
  repeat' ((conv=>whnf);first|(exfalso;contradiction)|refine zc K ?_|refine zS ?_|refine zd (λi=>?_) (λi=>?_))
  all_goals exact zE
 by_cases N:nC id/\xH b/\dQ b.1/\dQ b.2;rotate_left
 ·have e1:remE s b id=2:=by unfold remE;rw[Q5 (λh=>h c1),QO N]
  have t:remS s b id=dN:=Bg;rw[e1,t];generalize dQ b.1=o1 at*;generalize dQ b.2=o2 at*
  repeat' ((conv=>whnf);first|(exfalso;contradiction)|(exfalso;exact N ⟨F.2 ⟨Aa,Aa⟩,hw.2 ⟨Aa,Aa⟩,Ag,Ag⟩)|refine zc K ?_|refine zc O ?_|refine zc P ?_|refine zS ?_|refine zd (λi=>?_) (λi=>?_)|refine zl (λhlt=>?_) (λhlt=>?_)|refine zk (λc=>?_) (λc=>?_))
  all_goals exact zE
 obtain⟨c21,c22,c23,c24⟩:=N;have aa:=F.1 c21;have ag:=hw.1 c22
 have ad:0<=min b.1.1 b.1.2/\max b.1.1 b.1.2<=1900:=c23;have ae:0<=min b.2.1 b.2.2/\max b.2.1 b.2.2<=1900:=c24
 have e0:sV b.1 b.2=jT b (0,0):=by
  rw[fR1 (p:=b.1) (q:=b.2) ⟨Aa,Aa,Aa,Aa,Aa,Aa⟩,cL4 (x:=b) (v:=(0,0)) ⟨Ar,Ar,Ar,Ar,Ar,Ar⟩];simp only[Int.sub_zero]
 rw[e0]at Q S;by_cases c3:lI s.shape (jT b (0,0));rotate_left
 ·have e1:remE s b id=13:=by unfold remE;rw[Q5 (λh=>h c1),Q5 (λh=>h ⟨c21,c22,c23,c24⟩),QO c3]
  have t:remS s b id=dN:=Bg;rw[e1,t]
  repeat' ((conv=>whnf);first|(exfalso;contradiction)|omega|refine zc K ?_|refine zc O ?_|refine zc P ?_|refine zc Q ?_|refine zc S ?_|refine zS ?_|refine zd (λi=>?_) (λi=>?_)|refine zl (λhlt=>?_) (λhlt=>?_)|refine zk (λc=>?_) (λc=>?_))
  all_goals exact zE
 have e1:remE s b id=0:=BR;have t:remS s b id=⟨id,s.grade,s.heat,s.grain,jT b b.1,kJ b s.defects⟩:=by unfold remS;rw[QO e1]
 have e3:sV (0,0) (vsub b.2 b.1)=jT b b.1:=by
  rw[<-fO0 (x:=b) (v:=b.1) ⟨Aa,Aa,Aa,Aa,Aa,Aa⟩]
  have e:vsub b.1 b.1=(0,0):=by
   rw[kN ⟨Aa,Aa⟩ ⟨Aa,Aa⟩,Int.sub_self,Int.sub_self]
  rw[e]
 rw[e3]at Z;rw[e1,t];have hl:(s.defects.map shV).length=s.defects.length:=Af
 have V:∀d:Sh,xH (nV (boxS d).1 b)->sV (vsub (nV (boxS d).1 b).1 b.1) (vsub (nV (boxS d).1 b).2 b.1)=jT (nV (boxS d).1 b) b.1:=λd i=>by
  have E:(nV (boxS d).1 b).1.1< (nV (boxS d).1 b).2.1/\(nV (boxS d).1 b).1.2< (nV (boxS d).1 b).2.2:=i;refine fO0 ?_;unfold nV at E⊢;simp only at E⊢;exact⟨Aa,Aa,Aa,Aa,Aa,Aa⟩
 generalize jT b b.1=f at*;generalize jT b (0,0)=r0 at*;generalize af:vsub b.2 b.1=vb at*
 repeat' ((conv=>whnf);first|(exfalso;contradiction)|omega|refine cC0 [(3,3),(4,4),(2,999),(72,3),(74,3),(76,3),(79,4),(81,4),(10,10)] Ad Ac ?_|refine zc K ?_|refine zc O ?_|refine zc P ?_|refine zc Q ?_|refine zc S ?_|refine zc h8 ?_|refine zc Z ?_|refine zS ?_|refine zd (λi=>?_) (λi=>?_)|refine zl (λhlt=>?_) (λhlt=>?_)|refine zk (λc=>?_) (λc=>?_))
 all_goals conv=>whnf
 refine aU (A:=List Sh) (B:=List Sh) (λD R=>fG1 s b id f (kJ b D) D.length) (λD R=>s.defects=D++R) (λD R=>R.length) [] s.defects ?_ rfl (λD R hp=>?_)
 ·show Le T _ (fG1 s b id f [] 0)
  exact zj
 have ab:=yK b D;have ac:=L.2.1
 cases R with
 |nil=>
  have e:s.defects=D:=Ae;have G:s.defects.length=D.length:=Iu
  rw[e];generalize kJ b D=X at*
  cases X with
  |nil=>exact KZ
  |cons x X=>exact KZ
 |cons d R=>
  have G:=aO hp;have U:d∈s.defects:=Ae
  have M:=fX2 d (L.2.2 d U);have a:=bX0 b D d
  have j:((D++[d]).length:Int)=(D.length:Int)+1:=Af;have g:aK2 b d=(open Classical in if xH (nV (boxS d).1 b)then [jT (nV (boxS d).1 b) b.1]else []):=rfl
  have hq:=V d;have C:nV (boxS d).1 b=((max (boxS d).1.1.1 b.1.1,max (boxS d).1.1.2 b.1.2),(min (boxS d).1.2.1 b.2.1,min (boxS d).1.2.2 b.2.2)):=rfl
  generalize kJ b D=X at*;generalize nV (boxS d).1 b=cb at*;generalize (boxS d).1=J at*;simp only[<-mG,<-lH]at C;subst C;generalize k:maxI J.1.1 b.1.1=u at*;generalize m:maxI J.1.2 b.1.2=w at*;generalize n:minI J.2.1 b.2.1=y at*;generalize o:minI J.2.2 b.2.2=z at*;have k2:=fD (u,w) b.1;have k3:=fD (y,z) b.1
  have Y:=fH3 (vsub (u,w) b.1) (vsub (y,z) b.1);by_cases H:u<y/\w<z
  ·have r:xH ((u,w),(y,z)):=H
   rw[QO r]at g;rw[g]at a;rw[hq r]at Y;generalize jT ((u,w),(y,z)) b.1=rr at*;generalize vsub (u,w) b.1=u1 at*;generalize vsub (y,z) b.1=u2 at*
   cases X with
   |nil=>
    repeat' ((conv=>whnf);first|omega|refine cC0 [(4,4),(10,10),(14,14),(15,15),(147,4),(151,4),(144,10),(157,10)] Ad Ac ?_|refine aB (l:=s.defects) Aa ?_|refine aF (l:=s.defects) (A:=D) (x:=d) (B:=R) hp Aa ?_|rw[k]|rw[m]|rw[n]|rw[o]|refine zc M ?_|refine zc k2 ?_|refine zc k3 ?_|refine zc Y ?_|refine gX (Q9 rfl) (dA rfl) (Q9 rfl) ?_|refine zS ?_|refine zl (λhlt=>?_) (λhlt=>?_))
    all_goals conv=>whnf
    refine⟨(D++[d],R),?_,Ae,Af⟩;show Le T _ (fG1 s b id f (kJ b (D++[d])) (D++[d]).length);rw[a,j];show Le T _ (fG1 s b id f [rr] _);exact zj
   |cons x X=>
    have W:(x::X).length=X.length+1:=rfl
    repeat' ((conv=>whnf);first|omega|refine cC0 [(4,4),(10,10),(14,14),(15,15),(147,4),(151,4),(144,10),(157,10)] Ad Ac ?_|refine aB (l:=s.defects) Aa ?_|refine aF (l:=s.defects) (A:=D) (x:=d) (B:=R) hp Aa ?_|rw[k]|rw[m]|rw[n]|rw[o]|refine zc M ?_|refine zc k2 ?_|refine zc k3 ?_|refine zc Y ?_|refine iH rfl (.inl rfl) rfl (Q9 rfl) (dA rfl) (show((x::X).map shV).length+1<=1000000000 from DN) ?_|refine zS ?_|refine zl (λhlt=>?_) (λhlt=>?_))
    all_goals conv=>whnf
    refine⟨(D++[d],R),?_,Ae,Af⟩;show Le T _ (fG1 s b id f (kJ b (D++[d])) (D++[d]).length);rw[a,j];show Le T _ (fG1 s b id f (x::(X++[rr])) _);unfold fG1;exact Ny
  ·have r:¬xH ((u,w),(y,z)):=H
   rw[Q5 r]at g;rw[g,Rn]at a
   cases X with
   |nil=>
    repeat' ((conv=>whnf);first|omega|refine aB (l:=s.defects) Aa ?_|refine aF (l:=s.defects) (A:=D) (x:=d) (B:=R) hp Aa ?_|rw[k]|rw[m]|rw[n]|rw[o]|refine zc M ?_|refine zS ?_|refine zl (λhlt=>?_) (λhlt=>?_))
    all_goals conv=>whnf
    all_goals (refine⟨(D++[d],R),?_,Ae,Af⟩)
    all_goals (show Le T _ (fG1 s b id f (kJ b (D++[d])) (D++[d]).length))
    all_goals (rw[a,j])
    all_goals (show Le T _ (fG1 s b id f [] _))
    all_goals
     exact zj
   |cons x X=>
    have W:(x::X).length=X.length+1:=rfl
    repeat' ((conv=>whnf);first|omega|refine aB (l:=s.defects) Aa ?_|refine aF (l:=s.defects) (A:=D) (x:=d) (B:=R) hp Aa ?_|rw[k]|rw[m]|rw[n]|rw[o]|refine zc M ?_|refine zS ?_|refine zl (λhlt=>?_) (λhlt=>?_))
    all_goals conv=>whnf
    all_goals (refine⟨(D++[d],R),?_,Ae,Af⟩)
    all_goals (show Le T _ (fG1 s b id f (kJ b (D++[d])) (D++[d]).length))
    all_goals (rw[a,j])
    all_goals (show Le T _ (fG1 s b id f (x::X) _))
    all_goals
     exact zj
theorem dW8{a b:List Int}(k:Len6 a):fnVC T Tryz.prog Tryz.f30 [.sl (a.map I), .sl (b.map I)] (DB (a=b)):=by
 have f:(a.map I).length=a.length:=Af;have g:(b.map I).length=b.length:=Af
 generalize hP:(a=b)=P;have hr:P↔a=b:=GK;clear hP
 repeat' ((conv=>whnf);first|refine zS ?_|refine zT ?_ ?_<;>intro _|fail)
 all_goals conv=>whnf
 all_goals first
  |exact aA (aC (λh=>by have:=Ry List.length (hr.1 h);omega))
  |skip
 refine oU (A:=List Int) (B:=List Int) (C:=List Int) (λD R S=>mkSt [(0, .sl (a.map I)),(1, .sl (b.map I)),(5,I D.length)] [] []) (λD R S=>a=D++R/\b=D++S) (λD R S=>R.length) [] a b ?_ ⟨rfl,rfl⟩ (λD R S hp=>?_)
 ·exact zj
 obtain⟨hp,hq⟩:=hp
 cases R with
 |nil=>exact IC
 |cons x R=>
  cases S with
  |nil=>exact JF
  |cons y S=>
   have hlen:=aO hp;have d:=aO hq
   have e:x≠y->¬P:=λh hP=>Jc;have i:x∈a:=Ae
   have j:y∈b:=Aq
   skip
   repeat' ((conv=>whnf);first|omega|refine eV7 (λc=>?_) (λc=>?_)|refine zS ?_|refine zT ?_ ?_<;>intro _|fail)
   all_goals conv=>whnf
   all_goals first
    |exact aA (aC (e AU))
    |skip
   exact NP
theorem cY1{a b:List Int}(c:Len6 a):Sp 30 [.sl (a.map I), .sl (b.map I)] (DB (a=b)):=zsp Tryz.func30 (dW8 c)
theorem eK4{a b:List Vc}(k:Len6 a):fnVC T Tryz.prog Tryz.f265 [.sl (a.map vcV), .sl (b.map vcV)] (DB (a=b)):=by
 have f:(a.map vcV).length=a.length:=Af;have g:(b.map vcV).length=b.length:=Af
 generalize hP:(a=b)=P;have hr:P↔a=b:=GK;clear hP
 repeat' ((conv=>whnf);first|refine zS ?_|refine zT ?_ ?_<;>intro _|fail)
 all_goals conv=>whnf
 all_goals first
  |exact aA (aC (λh=>by have:=Ry List.length (hr.1 h);omega))
  |skip
 refine oU (A:=List Vc) (B:=List Vc) (C:=List Vc) (λD R S=>mkSt [(0, .sl (a.map vcV)),(1, .sl (b.map vcV)),(5,I D.length)] [] []) (λD R S=>a=D++R/\b=D++S) (λD R S=>R.length) [] a b ?_ ⟨rfl,rfl⟩ (λD R S hp=>?_)
 ·exact zj
 obtain⟨hp,hq⟩:=hp
 cases R with
 |nil=>exact IC
 |cons x R=>
  cases S with
  |nil=>exact JF
  |cons y S=>
   have hlen:=aO hp;have d:=aO hq
   have e:x≠y->¬P:=λh hP=>Jc;have i:x∈a:=Ae
   have j:y∈b:=Aq
   skip
   repeat' ((conv=>whnf);first|omega|refine aT1 ?_|refine aB4 (λc=>?_) (λc=>?_)|refine zS ?_|refine zT ?_ ?_<;>intro _|fail)
   all_goals conv=>whnf
   all_goals first
    |exact aA (aC (e AU))
    |skip
   exact NP
theorem bK2{a b:List Vc}(c:Len6 a):Sp 265 [.sl (a.map vcV), .sl (b.map vcV)] (DB (a=b)):=zsp Tryz.func265 (eK4 c)
theorem dK7{a b:List Iv}(k:Len6 a):fnVC T Tryz.prog Tryz.f222 [.sl (a.map ivV), .sl (b.map ivV)] (DB (a=b)):=by
 have f:(a.map ivV).length=a.length:=Af;have g:(b.map ivV).length=b.length:=Af
 generalize hP:(a=b)=P;have hr:P↔a=b:=GK;clear hP
 repeat' ((conv=>whnf);first|refine zS ?_|refine zT ?_ ?_<;>intro _|fail)
 all_goals conv=>whnf
 all_goals first
  |exact aA (aC (λh=>by have:=Ry List.length (hr.1 h);omega))
  |skip
 refine oU (A:=List Iv) (B:=List Iv) (C:=List Iv) (λD R S=>mkSt [(0, .sl (a.map ivV)),(1, .sl (b.map ivV)),(5,I D.length)] [] []) (λD R S=>a=D++R/\b=D++S) (λD R S=>R.length) [] a b ?_ ⟨rfl,rfl⟩ (λD R S hp=>?_)
 ·exact zj
 obtain⟨hp,hq⟩:=hp
 cases R with
 |nil=>exact IC
 |cons x R=>
  cases S with
  |nil=>exact JF
  |cons y S=>
   have hlen:=aO hp;have d:=aO hq
   have e:x≠y->¬P:=λh hP=>Jc;have i:x∈a:=Ae
   have j:y∈b:=Aq
   skip
   repeat' ((conv=>whnf);first|omega|refine aB4 (λc=>?_) (λc=>?_)|refine zS ?_|refine zT ?_ ?_<;>intro _|fail)
   all_goals conv=>whnf
   all_goals first
    |exact aA (aC (e AU))
    |skip
   exact NP
theorem cE7{a b:List Iv}(c:Len6 a):Sp 222 [.sl (a.map ivV), .sl (b.map ivV)] (DB (a=b)):=zsp Tryz.func222 (dK7 c)
theorem dO2{a b:List Rg}(l:Len6 a)(g:∀x∈a,Len6 x):fnVC T Tryz.prog Tryz.f266 [.sl (a.map rgV), .sl (b.map rgV)] (DB (a=b)):=by
 have i:(a.map rgV).length=a.length:=Af;have j:(b.map rgV).length=b.length:=Af
 generalize hP:(a=b)=P;have hr:P↔a=b:=GK;clear hP
 repeat' ((conv=>whnf);first|refine zS ?_|refine zT ?_ ?_<;>intro _|fail)
 all_goals conv=>whnf
 all_goals first
  |exact aA (aC (λh=>by have:=Ry List.length (hr.1 h);omega))
  |skip
 refine oU (A:=List Rg) (B:=List Rg) (C:=List Rg) (λD R S=>mkSt [(0, .sl (a.map rgV)),(1, .sl (b.map rgV)),(5,I D.length)] [] []) (λD R S=>a=D++R/\b=D++S) (λD R S=>R.length) [] a b ?_ ⟨rfl,rfl⟩ (λD R S hp=>?_)
 ·exact zj
 obtain⟨hp,hq⟩:=hp
 cases R with
 |nil=>exact IC
 |cons x R=>
  cases S with
  |nil=>exact JF
  |cons y S=>
   have hlen:=aO hp;have d:=aO hq
   have e:x≠y->¬P:=λh hP=>Jc;have f:x∈a:=Ae
   have k:y∈b:=Aq;have c:=g x f
   repeat' ((conv=>whnf);first|omega|refine zc (bK2 (b:=y) c) ?_|refine zS ?_|refine zT ?_ ?_<;>intro _|fail)
   all_goals conv=>whnf
   all_goals first
    |exact aA (aC (e AU))
    |skip
   exact NP
theorem cI7{a b:List Rg}(c:Len6 a)(d:∀x∈a,Len6 x):Sp 266 [.sl (a.map rgV), .sl (b.map rgV)] (DB (a=b)):=zsp Tryz.func266 (dO2 c d)
theorem fC2{a b:Sh}:a=b↔a.outer=b.outer/\a.holes=b.holes:=by
 constructor
 ·rintro rfl;exact⟨rfl,rfl⟩
 ·obtain⟨o,h⟩:=a;obtain⟨f,e⟩:=b;rintro⟨c,d⟩;simp only at c d;rw[c,d]
theorem aW1(a b:Sh)(f:aV5 a):Sp 217 [shV a,shV b] (DB (a=b)):=by
 refine zsp Tryz.func217 ?_;obtain⟨c,d,e⟩:=f;have g:=bK2 (b:=b.outer) c;have i:=cI7 (b:=b.holes) d e
 have j:a=b↔a.outer=b.outer/\a.holes=b.holes:=fC2;generalize (a=b)=P at*;generalize (a.outer=b.outer)=k at*;generalize (a.holes=b.holes)=l at*
 repeat' ((conv=>whnf);first|refine zS ?_|refine zT ?_ ?_<;>intro _|fail)
 all_goals conv=>whnf
 all_goals first
  |exact aA (fQ CV)
  |exact aA (aC CV)
theorem dB4{a b:List Sh}(l:Len6 a)(g:∀x∈a,aV5 x):fnVC T Tryz.prog Tryz.f218 [.sl (a.map shV), .sl (b.map shV)] (DB (a=b)):=by
 have i:(a.map shV).length=a.length:=Af;have j:(b.map shV).length=b.length:=Af
 generalize hP:(a=b)=P;have hr:P↔a=b:=GK;clear hP
 repeat' ((conv=>whnf);first|refine zS ?_|refine zT ?_ ?_<;>intro _|fail)
 all_goals conv=>whnf
 all_goals first
  |exact aA (aC (λh=>by have:=Ry List.length (hr.1 h);omega))
  |skip
 refine oU (A:=List Sh) (B:=List Sh) (C:=List Sh) (λD R S=>mkSt [(0, .sl (a.map shV)),(1, .sl (b.map shV)),(5,I D.length)] [] []) (λD R S=>a=D++R/\b=D++S) (λD R S=>R.length) [] a b ?_ ⟨rfl,rfl⟩ (λD R S hp=>?_)
 ·exact zj
 obtain⟨hp,hq⟩:=hp
 cases R with
 |nil=>exact IC
 |cons x R=>
  cases S with
  |nil=>exact JF
  |cons y S=>
   have hlen:=aO hp;have d:=aO hq
   have e:x≠y->¬P:=λh hP=>Jc;have f:x∈a:=Ae
   have k:y∈b:=Aq;have c:=g x f
   repeat' ((conv=>whnf);first|omega|refine zc (aW1 x y c) ?_|refine zS ?_|refine zT ?_ ?_<;>intro _|fail)
   all_goals conv=>whnf
   all_goals first
    |exact aA (aC (e AU))
    |skip
   exact NP
theorem cB6{a b:List Sh}(c:Len6 a)(d:∀x∈a,aV5 x):Sp 218 [.sl (a.map shV), .sl (b.map shV)] (DB (a=b)):=zsp Tryz.func218 (dB4 c d)
theorem dN5{a b:jL}:a=b↔a.id=b.id/\a.grade=b.grade/\a.heat=b.heat/\a.grain=b.grain/\a.shape=b.shape/\a.defects=b.defects:=by
 constructor
 ·rintro rfl;exact⟨rfl,rfl,rfl,rfl,rfl,rfl⟩
 ·obtain⟨⟩:=a;obtain⟨⟩:=b;rintro⟨c,d,e,f,g,h⟩;simp only at c d e f g h;rw[c,d,e,f,g,h]
theorem cQ1(a b:jL)(f:aA4 a):Sp 176 [zJ a,zJ b] (DB (a=b)):=by
 refine zsp Tryz.func176 ?_;obtain⟨c,d,e⟩:=f;have g:=aW1 a.shape b.shape c;have i:=cB6 (b:=b.defects) d e
 have j:a=b↔a.id=b.id/\a.grade=b.grade/\a.heat=b.heat/\a.grain=b.grain/\a.shape=b.shape/\a.defects=b.defects:=dN5;generalize (a=b)=P at*;generalize (a.shape=b.shape)=k at*;exact Ox
theorem eO5{a b:Bar}:a=b↔a.id=b.id/\a.grade=b.grade/\a.heat=b.heat/\a.length=b.length/\a.defects=b.defects:=by
 constructor
 ·rintro rfl;exact⟨rfl,rfl,rfl,rfl,rfl⟩
 ·obtain⟨⟩:=a;obtain⟨⟩:=b;rintro⟨c,d,e,f,g⟩;simp only at c d e f g;rw[c,d,e,f,g]
theorem dK6(a b:Bar)(c:Len6 a.defects):Sp 181 [barV a,barV b] (DB (a=b)):=by
 refine zsp Tryz.func181 ?_;have d:=cE7 (b:=b.defects) c;have e:a=b↔a.id=b.id/\a.grade=b.grade/\a.heat=b.heat/\a.length=b.length/\a.defects=b.defects:=eO5
 generalize (a=b)=P at*;exact Ox
def awB:Bar:=⟨1,chB 115,chB 104,100,[]⟩
def awR:Rest:=⟨4,bx0,75,100⟩
def awX:Event:=xC 1 [⟨2,chB 97,40⟩,⟨3,chB 97,30⟩] [awR] 5
def awL:List Event:=[nD awB,uX 1 (chB 112),awX]
theorem fB9:fM awB:=⟨⟨show(1:Int)<=1 from Ai,show(1:Int)<=1000000 from Ai,yM Ai,yM Ai⟩,show(1:Int)<=100 from Ai,show(100:Int)<=2000 from Ai,RI 6,trivial⟩
theorem dH6:iG (barS awB (chB 112)) awR=0:=by
 unfold iG;rw[Q5 (by show¬true=false;decide),Q5 (by show¬bx0≠bx0;simp),Q5 (by show¬((75:Int)<0\/(100:Int)<=75\/(100:Int)<100);decide)]
theorem bI7:cZ (barS awB (chB 112)) [] awX.rests=0:=by
 show cZ (barS awB (chB 112)) [] [awR] =0;simp_all [Q5,dH6,cZ]
theorem cK1:dZ (barS awB (chB 112)) awR=⟨true,dN,⟨4,chB 115,chB 104,25,[]⟩,aI⟩:=by
 unfold dZ;rw[Q5 (by show¬true=false;decide),QO dH6]
 have:W (awR.hi-awR.lo)=25:=Ai;rw[this];rfl
theorem eP2:nJ (barS awB (chB 112)) awX=awX.scrap:=by
 unfold nJ
 have a:eG (barS awB (chB 112)) awX.rests=[⟨true,dN,⟨4,chB 115,chB 104,25,[]⟩,aI⟩] :=by
  rw[mV bI7];show [dZ (barS awB (chB 112)) awR] =_;rw[cK1]
 rw[a];show subL (subL 100 [40,30]) [25] =5;grind [aC6,R6]
theorem dQ9:iD awX:=by
 refine aK5 (λc a=>?_) (λr b=>?_) (by show(2:Nat)<=60;decide) (by show(1:Nat)<=6;decide) Ai
 ·simp only[Rh,TW,UU]at a
  rcases a with rfl|rfl
  ·exact⟨⟨show(1:Int)<=2 from Ai,show(2:Int)<=1000000 from Ai⟩,yM Ai,show(1:Int)<=40 from Ai⟩
  ·exact⟨⟨show(1:Int)<=3 from Ai,show(3:Int)<=1000000 from Ai⟩,yM Ai,show(1:Int)<=30 from Ai⟩
 ·rw[QW.1 b]
  exact⟨⟨show(1:Int)<=4 from Ai,show(4:Int)<=1000000 from Ai⟩, .inl rfl⟩
theorem eF1:dP [awB.id] (fO awX):=by
 rw[qJ];show(∀n∈([2,3,4] :List Int),n∉([1] :List Int))/\([2,3,4] :List Int).Pairwise (·≠·);exact⟨Ai,Ai⟩
theorem eA5:∀e∈awL,iY e:=by
 intro e d;have b:e=nD awB\/e=uX 1 (chB 112)\/e=awX:=by simpa [awL]using d
 have a:tN dN:=⟨⟨RI _,RI _,λh c=>by cases c⟩,RI _,λh c=>by cases c⟩
 rcases b with rfl|rfl|rfl
 ·exact⟨a,RI _,RI _,RI _⟩
 ·exact⟨a,RI _,RI _,RI _⟩
 ·exact⟨a,RI _,show(2:Nat)<=1000000 from Ai,show(1:Nat)<=1000000 from Ai⟩
def nil1(x:V):V:=match x with
 | .lit u=>(match u with| .slice none 0 0=> .sl [] |u=> .lit u)
 |x=>x
def nilC(x:V):V:=match x with
 | .agg xs=> .agg (mapR nil1 xs)
 |x=>nil1 x
def nilSt(σ:St):St:=⟨λs=>nilC (σ.env s),σ.bx,σ.ar⟩
theorem dC4{w:World}{G:Gh}{v:Value}{x:V}(h:Rv w G v x):Rv w G v (nil1 x):=by
 unfold nil1;exact Qj
theorem eM7{p:Nat->Prop}{q:Nat->Nat->Prop}{x:V}(h:x.ok p q):(nil1 x).ok p q:=by
 unfold nil1;grind [V.ok,V.okL]
theorem eQ8{w:World}{G:Gh}{v:Value}{x:V}(h:Rv w G v x):Rv w G v (nilC x):=by
 cases x with
 |agg xs=>
  show Rv w G v (.agg (mapR nil1 xs));rw[dU]
  cases h with
  |agg cs _ a b f=>
   refine .agg cs _ (by simp[a]) b (λi c y e d=>?_)
   rw[RD]at d;grind [dC4]
 |_=>exact dC4 h
theorem dG1{p:Nat->Prop}{q:Nat->Nat->Prop}{x:V}(h:x.ok p q):(nilC x).ok p q:=by
 cases x with
 |agg xs=>
  show(V.agg (mapR nil1 xs)).ok p q;grind [dU,aH,eM7,V.ok]
 |_=>exact eM7 h
theorem le_nil(σ:St):Le T σ (nilSt σ):=by
 unfold Le;intro Φ a w G inv;exact⟨G,{inv with env:=λs=>eQ8 (inv.env s),wfE:=λs=>dG1 (inv.wfE s)}⟩
theorem fZ1{s:jL}:pJ s↔s=dN:=by
 obtain⟨i,g,h,a,⟨o,b⟩,d⟩:=s;unfold pJ dN sh0;grind
theorem gC9{b:Bar}:yT b↔b=bar0:=by
 obtain⟨i,g,h,l,d⟩:=b;grind [RH,yT,bar0]
theorem fR6(s:jL)(a:aA4 s):Sp 128 [zJ s] (DB (pJ s)):=by
 refine zsp Tryz.func128 ?_;have b:=cQ1 s dN a;have e:DB (pJ s)=DB (s=dN):=Ry DB (propext fZ1)
 rw[e];generalize (s=dN)=P at*;exact zF
theorem fW3(n:Int):Sp 132 [I n] (DB (nC n)):=by
 refine zsp Tryz.func132 ?_;exact O0
theorem fG6(b:Bool):Sp 92 [B b] (I (fC6 b)):=by
 refine zsp Tryz.func92 ?_;cases b
 ·exact zF
 ·exact zF
theorem fN5(x:aN):Sp 133 [aQ x] (I (sid x)):=by
 refine zsp Tryz.func133 ?_;exact OT
theorem fJ6(x:aN)(a:eY x):Sp 93 [aQ x] (I (gG x)):=by
 refine zsp Tryz.func93 ?_;have c:=fK5 x.sheet.shape a.1.1;exact OT
theorem fR9(b:Bool)(p q:Rest):Sp 138 [bY p,bY q,B b] (DB (kP b p q)):=by
 refine zsp Tryz.func138 ?_
 cases b with
 |true=>exact JD
 |false=>exact Jb
def aC2{α:Type}(key:α->Int)(l:List α)(n:Int):Int:=match l.findIdx? (λx=>decide (key x=n))with|some i=>i|none=> -1
theorem aB5{a:Type}{key:a->Int}{l:List a}{n:Int}(h:∀x∈l,key x≠n):aC2 key l n= -1:=by
 unfold aC2;grind
theorem fI9{a:Type}{key:a->Int}{D R:List a}{x:a}{n:Int}(h:∀x∈D,key x≠n)(b:key x=n):aC2 key (D++x::R) n=D.length:=by
 unfold aC2;grind
theorem fZ7(s:aJ)(n:Int)(d:s.stocks.length<=1000000):Sp 91 [invV s,I n] (I (aC2 sid s.stocks n)):=by
 refine zsp Tryz.func91 ?_;have b:(s.stocks.map aQ).length=s.stocks.length:=Af
 repeat' ((conv=>whnf);first|refine zS ?_|fail)
 refine aU (A:=List aN) (B:=List aN) (λD R=>mkSt [(1,I n),(2, .box 2 0),(5,I D.length)] [(2,invC s)] []) (λD R=>s.stocks=D++R/\∀x∈D,sid x≠n) (λD R=>R.length) [] s.stocks ?_ ⟨rfl,Af⟩ (λD R hp=>?_)
 ·exact zj
 obtain⟨hp,hD⟩:=hp
 cases R with
 |nil=>
  have a:s.stocks.length=D.length:=Ae;have e:aC2 sid s.stocks n= -1:=aB5 DT
  rw[e];exact NU
 |cons x R=>
  have a:=aO hp;have c:=fN5 x
  have hS:sid x=n->aC2 sid s.stocks n=D.length:=λh=>by rw[hp];exact fI9 hD h
  have hN:sid x≠n->∀y∈D++[x],sid y≠n:=λh y hy=>J9;generalize sid x=k at*;generalize aC2 sid s.stocks n=F at*;exact O5
theorem fO3(s:aJ)(n:Int)(c:s.pieces.length<=1000000):Sp 90 [invV s,I n] (I (aC2 Piece.id s.pieces n)):=by
 refine zsp Tryz.func90 ?_;have b:(s.pieces.map aZ).length=s.pieces.length:=Af
 repeat' ((conv=>whnf);first|refine zS ?_|fail)
 refine aU (A:=List Piece) (B:=List Piece) (λD R=>mkSt [(1,I n),(2, .box 2 0),(5,I D.length)] [(2,invC s)] []) (λD R=>s.pieces=D++R/\∀x∈D,x.id≠n) (λD R=>R.length) [] s.pieces ?_ ⟨rfl,Af⟩ (λD R hp=>?_)
 ·exact zj
 obtain⟨hp,hD⟩:=hp
 cases R with
 |nil=>
  have a:s.pieces.length=D.length:=Ae;have e:aC2 Piece.id s.pieces n= -1:=aB5 DT
  rw[e];exact NU
 |cons x R=>
  have a:=aO hp;have hS:x.id=n->aC2 Piece.id s.pieces n=D.length:=λh=>by rw[hp];exact fI9 hD h
  have hN:x.id≠n->∀y∈D++[x],y.id≠n:=λh y hy=>J9;generalize aC2 Piece.id s.pieces n=F at*;exact O5
theorem fT4{b:Type}{key:b->Int}{l D R:List b}{t:Int}(hp:l=D++R)(c:∀x∈D,key x<t)(d:∀x R',R=x::R'->t<=key x):bs key l t=D.length:=by
 refine dC0 Ae (λk m e a=>?_) (λm a=>?_)
 ·rw[hp,List.getElem?_append_left e]at a
  exact c m (QT a)
 ·rw[hp,Ut (QV _),Nat.sub_self]at a
  cases R with
  |nil=>simp at a
  |cons x R'=>
   simp only[U9,Sv]at a;subst a;exact d _ _ rfl
theorem fH2{a:Type}(f:a->V)(l:List a)(x:a){k i:Nat}(h:i=k):(putAt l i x).map f=List.take (k:Int).toNat (l.map f)++[f x] ++List.drop (k:Int).toNat (List.take ((l.map f).length:Int).toNat (l.map f)):=by
 subst h;exact fI6 f l x i
theorem fF6{a:Type}{f:a->V}{n:Nat}(hf:∀x,(f x).cells.length=n)(l:List a):∀y∈l.map f,y.cells.length=n:=λy hy=>F7
theorem fL0{a:Type}{f:a->V}{n:Nat}(b:∀x,(f x).cells.length=n)(l:List a)(k:Nat):∀y∈(l.map f).take k,y.cells.length=n:=λy c=>fF6 b l y (RG c)
theorem f_dt{a:Type}{f:a->V}{n:Nat}(b:∀x,(f x).cells.length=n)(l:List a)(k m:Nat):∀y∈((l.map f).take m).drop k,y.cells.length=n:=λy c=>fF6 b l y (RG (Rz c))
abbrev zInv:List V:=[nilV,nilV,nilV,I 0,I 0,I 0,I 0]
theorem fT9(s:aJ)(n:Int)(i:s.used.length<=1000000):Sp 134 [invV s,I n] (invV {s with used:=putN s.used n}):=by
 refine zsp Tryz.func134 ?_;have g:(s.used.map I).length=s.used.length:=Af;show fnVC _ _ _ _ (.agg [.sl (s.stocks.map aQ), .sl (s.pieces.map aZ), .sl ((putN s.used n).map I),I s.received.1,I s.received.2,I s.scrap.1,I s.scrap.2]);generalize b:(putN s.used n).map I=U
 repeat' ((conv=>whnf);first|refine zS ?_|fail)
 refine aU (A:=List Int) (B:=List Int) (λD R=>mkSt [(1,I n),(2, .box 2 0),(4, .box 4 0),(5,I D.length)] [(2,invC s),(4,zInv)] []) (λD R=>s.used=D++R/\∀x∈D,x<n) (λD R=>R.length) [] s.used ?_ ⟨rfl,Af⟩ (λD R hp=>?_)
 ·exact zj
 obtain⟨hp,hD⟩:=hp
 cases R with
 |nil=>
  have a:s.used.length=D.length:=Ae;have e:=(fH2 I s.used n (k:=D.length) (fT4 (key:=id) hp hD (λx R' h=>Ah))).symm.trans b
  repeat' ((conv=>whnf);first|omega|refine cC0 [(2,2),(23,2),(31,2),(36,2)] Ad Ac ?_|refine iH rfl (.inl rfl) rfl (Q9 rfl) (fL0 (f:=I) (n:=1) (λ_=>rfl) s.used _) CX ?_|refine iH rfl (.inl rfl) rfl (Q9 rfl) (dA rfl) CY ?_|refine iH rfl (.inl rfl) rfl (Q9 rfl) (f_dt (f:=I) (n:=1) (λ_=>rfl) s.used _ _) AB ?_|refine fU ⟨Aa,Aa,Aa, .inr (fF6 (f:=I) (n:=1) (λ_=>rfl) s.used)⟩ ?_|refine zS ?_|refine zT ?_ ?_<;>intro _|fail)
  rw[<-e];all_goals exact zE
 |cons x R=>
  have a:=aO hp;have d:x<n->∀y∈D++[x],y<n:=λh y hy=>J9
  have e:n<=x->_:=λh=>(fH2 I s.used n (k:=D.length) (fT4 (key:=id) hp hD (λx R' c=>by cases c;exact h))).symm.trans b
  repeat' ((conv=>whnf);first|omega|refine cC0 [(2,2),(23,2),(31,2),(36,2)] Ad Ac ?_|refine iH rfl (.inl rfl) rfl (Q9 rfl) (fL0 (f:=I) (n:=1) (λ_=>rfl) s.used _) CX ?_|refine iH rfl (.inl rfl) rfl (Q9 rfl) (dA rfl) CY ?_|refine iH rfl (.inl rfl) rfl (Q9 rfl) (f_dt (f:=I) (n:=1) (λ_=>rfl) s.used _ _) AB ?_|refine fU ⟨Aa,Aa,Aa, .inr (fF6 (f:=I) (n:=1) (λ_=>rfl) s.used)⟩ ?_|refine zS ?_|refine zT ?_ ?_<;>intro _|fail)
  all_goals conv=>whnf
  ·refine⟨(D++[x],R),?_,⟨Ae,d Aa⟩,Af⟩
   exact Nj
  ·rw[<-e Aa]
   all_goals exact zE
theorem fN8(s:aJ)(x:aN)(u:s.stocks.length<=1000000)(q:s.used.length<=1000000):Sp 88 [invV s,aQ x] (invV {s with stocks:=putS s.stocks x,used:=putN s.used (sid x)}):=by
 refine zsp Tryz.func88 ?_;have o:(s.stocks.map aQ).length=s.stocks.length:=Af;have b:putS s.stocks x=putAt s.stocks (bs sid s.stocks (sid x)) x:=rfl
 have g:=fT9 {s with stocks:=putS s.stocks x} (sid x) q;change Sp _ [.agg [.sl ((putS s.stocks x).map aQ), .sl (s.pieces.map aZ), .sl (s.used.map I),I s.received.1,I s.received.2,I s.scrap.1,I s.scrap.2],I (sid x)] (.agg [.sl ((putS s.stocks x).map aQ), .sl (s.pieces.map aZ), .sl ((putN s.used (sid x)).map I),I s.received.1,I s.received.2,I s.scrap.1,I s.scrap.2])at g;show fnVC _ _ _ _ (.agg [.sl ((putS s.stocks x).map aQ), .sl (s.pieces.map aZ), .sl ((putN s.used (sid x)).map I),I s.received.1,I s.received.2,I s.scrap.1,I s.scrap.2]);have d:=fN5 x
 generalize i:(putS s.stocks x).map aQ=U at*;rw[b]at i;generalize putN s.used (sid x)=N at*;generalize t:sid x=k at*
 repeat' ((conv=>whnf);first|refine zS ?_|fail)
 refine aU (A:=List aN) (B:=List aN) (λD R=>mkSt [(2, .box 2 0),(3, .box 3 0),(4, .box 4 0),(5,I D.length)] [(2,invC s),(3,gB x),(4,zInv)] []) (λD R=>s.stocks=D++R/\∀y∈D,sid y<k) (λD R=>R.length) [] s.stocks ?_ ⟨rfl,Af⟩ (λD R hp=>?_)
 ·exact zj
 obtain⟨hp,hD⟩:=hp
 cases R with
 |nil=>
  have a:s.stocks.length=D.length:=Ae;have e:=(fH2 aQ s.stocks x (k:=D.length) (fT4 (key:=sid) hp hD (λx R' h=>Ah))).symm.trans i
  subst e
  repeat' ((conv=>whnf);first|omega|refine bW8 [(2,2),(3,3),(4,4)] [(42,[88888])] Ad Aj ?_|refine cC0 [(2,2),(3,3),(25,2),(33,2),(38,2)] Ad Aj ?_|refine iH rfl (.inl rfl) rfl (Q9 rfl) (fL0 (f:=aQ) (n:=14) (λ_=>rfl) s.stocks _) Bf ?_|refine iH rfl (.inl rfl) rfl (Q9 rfl) (dA rfl) CS ?_|refine iH rfl (.inl rfl) rfl (Q9 rfl) (f_dt (f:=aQ) (n:=14) (λ_=>rfl) s.stocks _ _) A8 ?_|refine fU ⟨Aa,Aa,Aa, .inr (fF6 (f:=aQ) (n:=14) (λ_=>rfl) s.stocks)⟩ ?_|refine zc d ?_|refine zh (xX g) [] ?_|refine zS ?_|refine zT ?_ ?_<;>intro _|fail)
  all_goals exact zE
 |cons y R=>
  have a:=aO hp;have j:=fN5 y
  have m:sid y<k->∀z∈D++[y],sid z<k:=λh z hz=>Jf;by_cases hyk:k<=sid y
  ·have e:=(fH2 aQ s.stocks x (k:=D.length) (fT4 (key:=sid) hp hD (λx R' h'=>Ik))).symm.trans i
   subst e;generalize sid y=r at*
   repeat' ((conv=>whnf);first|omega|refine bW8 [(2,2),(3,3),(4,4)] [(42,[88888])] Ad Aj ?_|refine cC0 [(2,2),(3,3),(25,2),(33,2),(38,2)] Ad Aj ?_|refine aB (l:=s.stocks) Aa ?_|refine aF (l:=s.stocks) (A:=D) (x:=y) (B:=R) hp Aa ?_|refine iH rfl (.inl rfl) rfl (Q9 rfl) (fL0 (f:=aQ) (n:=14) (λ_=>rfl) s.stocks _) Bf ?_|refine iH rfl (.inl rfl) rfl (Q9 rfl) (dA rfl) CS ?_|refine iH rfl (.inl rfl) rfl (Q9 rfl) (f_dt (f:=aQ) (n:=14) (λ_=>rfl) s.stocks _ _) A8 ?_|refine fU ⟨Aa,Aa,Aa, .inr (fF6 (f:=aQ) (n:=14) (λ_=>rfl) s.stocks)⟩ ?_|refine zc j ?_|refine zc d ?_|refine zh (xX g) [] ?_|refine zS ?_|refine zT ?_ ?_<;>intro _|fail)
   all_goals exact zE
  ·have c:=m Aa
   generalize sid y=r at*
   repeat' ((conv=>whnf);first|omega|refine bW8 [(2,2),(3,3),(4,4)] [(42,[88888])] Ad Aj ?_|refine aB (l:=s.stocks) Aa ?_|refine aF (l:=s.stocks) (A:=D) (x:=y) (B:=R) hp Aa ?_|refine zc j ?_|refine zc d ?_|refine zS ?_|refine zT ?_ ?_<;>intro _|fail)
   all_goals conv=>whnf
   refine⟨(D++[y],R),?_,⟨Ae,c⟩,Af⟩;exact Nj
theorem fW8(s:aJ)(x:Piece)(m:s.pieces.length<=1000000)(l:s.used.length<=1000000):Sp 139 [invV s,aZ x] (invV {s with pieces:=putP s.pieces x,used:=putN s.used x.id}):=by
 refine zsp Tryz.func139 ?_;have j:(s.pieces.map aZ).length=s.pieces.length:=Af;have b:putP s.pieces x=putAt s.pieces (bs Piece.id s.pieces x.id) x:=rfl
 have g:=fT9 {s with pieces:=putP s.pieces x} x.id l;change Sp _ [.agg [.sl (s.stocks.map aQ), .sl ((putP s.pieces x).map aZ), .sl (s.used.map I),I s.received.1,I s.received.2,I s.scrap.1,I s.scrap.2],I x.id] (.agg [.sl (s.stocks.map aQ), .sl ((putP s.pieces x).map aZ), .sl ((putN s.used x.id).map I),I s.received.1,I s.received.2,I s.scrap.1,I s.scrap.2])at g;show fnVC _ _ _ _ (.agg [.sl (s.stocks.map aQ), .sl ((putP s.pieces x).map aZ), .sl ((putN s.used x.id).map I),I s.received.1,I s.received.2,I s.scrap.1,I s.scrap.2]);generalize d:(putP s.pieces x).map aZ=U at*;rw[b]at d;generalize putN s.used x.id=N at*
 repeat' ((conv=>whnf);first|refine zS ?_|fail)
 refine aU (A:=List Piece) (B:=List Piece) (λD R=>mkSt [(2, .box 2 0),(3, .box 3 0),(4, .box 4 0),(5,I D.length)] [(2,invC s),(3,dZ8 x),(4,zInv)] []) (λD R=>s.pieces=D++R/\∀y∈D,y.id<x.id) (λD R=>R.length) [] s.pieces ?_ ⟨rfl,Af⟩ (λD R hp=>?_)
 ·exact zj
 obtain⟨hp,hD⟩:=hp
 cases R with
 |nil=>
  have a:s.pieces.length=D.length:=Ae;have e:=(fH2 aZ s.pieces x (k:=D.length) (fT4 (key:=Piece.id) hp hD (λx R' h=>Ah))).symm.trans d
  exact ND
 |cons y R=>
  have a:=aO hp;have i:y.id<x.id->∀z∈D++[y],z.id<x.id:=λh z hz=>Jf
  by_cases hyk:x.id<=y.id
  ·have e:=(fH2 aZ s.pieces x (k:=D.length) (fT4 (key:=Piece.id) hp hD (λx R' h'=>Ik))).symm.trans d
   exact ND
  ·have c:=i Aa
   repeat' ((conv=>whnf);first|omega|refine bW8 [(2,2),(3,3),(4,4)] [(42,[88888])] Ad Aj ?_|refine zS ?_|refine zT ?_ ?_<;>intro _|fail)
   all_goals conv=>whnf
   refine⟨(D++[y],R),?_,⟨Ae,c⟩,Af⟩;exact Nj
theorem fG9(s:aJ)(k:Nat)(b:k<s.stocks.length)(c:s.stocks.length<=1000000):Sp 94 [invV s,I k] (invV {s with stocks:=nN s.stocks k}):=by
 refine zsp Tryz.func94 ?_;have a:(s.stocks.map aQ).length=s.stocks.length:=Af;show fnVC _ _ _ _ (.agg [.sl ((nN s.stocks k).map aQ), .sl (s.pieces.map aZ), .sl (s.used.map I),I s.received.1,I s.received.2,I s.scrap.1,I s.scrap.2])
 have e:(nN s.stocks k).map aQ=List.take (k:Int).toNat (s.stocks.map aQ)++List.drop ((k:Int)+1).toNat (List.take ((s.stocks.map aQ).length:Int).toNat (s.stocks.map aQ)):=by
  unfold nN;rw[show((k:Int)+1).toNat=k+1 from Aa,Sz,Sz,TL,RF,List.map_take,List.map_drop]
 rw[e]
 repeat' ((conv=>whnf);first|refine cC0 [(2,2),(6,2),(11,2),(17,2)] Ad Aj ?_|refine iH rfl (.inl rfl) rfl (Q9 rfl) (fL0 (f:=aQ) (n:=14) (λ_=>rfl) s.stocks _) Bf ?_|refine iH rfl (.inl rfl) rfl (Q9 rfl) (f_dt (f:=aQ) (n:=14) (λ_=>rfl) s.stocks _ _) (by show(List.take _ (s.stocks.map aQ)).length+(List.drop _ (List.take _ (s.stocks.map aQ))).length<=1000000000;rw[QZ,RU,QZ];omega) ?_|refine fU ⟨Aa,Aa,Aa, .inr (fF6 (f:=aQ) (n:=14) (λ_=>rfl) s.stocks)⟩ ?_|refine zS ?_|fail)
 all_goals exact zE
end Go.Proofs.Led
