/- Lemmas. -/
import Derived.Test.YtcmgfjaiegpddaaGreatB31
import Derived.Test.YtcmgfjaiegpddaaGreatB30
set_option linter.all false
set_option maxRecDepth 100000
set_option maxHeartbeats 8000000
noncomputable section
namespace Go.Proofs.Led
open Go Go.Proofs Go.Ab Tryz
def fR8(s:Sh)(v:Vc)(f:bG s)(hv:Sm4 v):Sp 266 [shV s,vcV v] (I (lJ s v)):=by
 refine zsp func266 ?_;have o:dM s.outer:=f.2.1 _ AB;have m:∀r∈s.holes,dM r:=λr hr=>f.2.1 r Dz;have j:=fK7 s.outer v o hv;have n:(s.holes.map rgV).length=s.holes.length:=Af;have q:=f.1;rw[eG3 f hv];generalize fJ s.outer v=c at*;repeat' ((conv=>whnf);first|refine zS ?_|fail)
 refine aU (A:=List Rg) (B:=List Rg) (λD R=>mkSt [(2, .box 2 0),(3, .box 3 0),(5,I D.length)] [(2,(shV s).cells),(3,(vcV v).cells)] []) (λD R=>s.holes=D++R/\lG v c s.holes=lG v c R) (λD R=>R.length) [] s.holes ?_ ⟨rfl,rfl⟩ (λD R hp=>?_);exact zj;obtain⟨hp,d⟩:=hp;generalize lG v c s.holes=A at*;cases R with
 |nil=>
  have e:s.holes.length=D.length:=Ae;have g:A=c:=d;rw[g];repeat' ((conv=>whnf);first|omega|refine zc j ?_|refine zS ?_|refine zl (λb=>?_) (λb=>?_))
  all_goals exact zE
 |cons h R=>
  have e:=aO hp;have k:=fK7 h v (m h Ae) hv;have i:lG v c (h::R)=if fJ h v=2 then 0 else if fJ h v=1 then 1 else lG v c R:=rfl
  rw[i]at d;generalize fJ h v=w at*;repeat' ((conv=>whnf);first|omega|refine aB (l:=s.holes) Aa ?_|refine aF (l:=s.holes) (A:=D) (x:=h) (B:=R) hp Aa ?_|refine zc k ?_|refine zS ?_|refine zl (λb=>?_) (λb=>?_)|refine ze (λa=>?_) (λa=>?_))
  all_goals conv=>whnf
  exact aG (by rw[d,Sj a]);exact aG (by rw[d,RZ (by omega),Sj a]);refine⟨(D++[h],R),?_,⟨Ae,by rw[d,RZ (by omega),RZ (by omega)]⟩,Af⟩;exact NQ
def fJ3(a b:Sh)(n:Int)(f:bG a)(o:bG b):Sp 219 [shV a,shV b,I n] (DB (bL9 a b n)):=by
 refine zsp func219 ?_;have i:=fG7 a (iT f) f.1;have hv:=fI8 f;have r:=cG3 f;have hr:bL9 a b n↔∃v∈rV a,lJ b v=n:=Tn;generalize bL9 a b n=P at*;generalize rV a=A at*;have m:(A.map vcV).length=A.length:=Af;repeat' ((conv=>whnf);first|refine zc i ?_|refine zS ?_|fail)
 refine aU (A:=List Vc) (B:=List Vc) (λD R=>mkSt [(2,I n),(4, .box 4 0),(7, .sl (A.map vcV)),(8,I D.length)] [(4,(shV b).cells)] []) (λD R=>A=D++R/\∀v∈D,lJ b v≠n) (λD R=>R.length) [] A ?_ ⟨rfl,Af⟩ (λD R hp=>?_);refine Le.trans (fB (k:=10) rfl (.inl rfl)) ?_;exact zj;obtain⟨hp,hD⟩:=hp;cases R with
 |nil=>
  have e:A.length=D.length:=Ae;repeat' ((conv=>whnf);first|omega|refine zS ?_|refine zl (λc=>?_) (λc=>?_))
  all_goals conv=>whnf
  exact aA (aC (λh=>Dn))
 |cons x R=>
  have e:=aO hp;have g:x∈A:=Ae;have j:=fR8 b x o (hv x g);have d:lJ b x=n->P:=λh=>hr.2 ⟨x,g,h⟩;have hgood:lJ b x≠n->∀v∈D++[x],lJ b v≠n:=λh v hv=>Ld;generalize lJ b x=w at*;repeat' ((conv=>whnf);first|omega|refine aB (l:=A) Aa ?_|refine aF (l:=A) (A:=D) (x:=x) (B:=R) hp Aa ?_|refine zc j ?_|refine zS ?_|refine zl (λc=>?_) (λc=>?_)|refine ze (λheq=>?_) (λheq=>?_))
  all_goals conv=>whnf
  exact aA (fE (d heq));exact KI
def secS(s:Sh)(p:Vc):Option Sg:=secL p 0 (rings s)
def secG0(x:Option Sg):Sg:=x.getD ((0,0),(0,0))
def gC5{i:Nat}{r:Rg}{p:Vc}(h:∀k,k<r.length->secV i r p k=none):secR i r p=none:=fE5.1.2 h
def gD9{i:Nat}{r:Rg}{p:Vc}{k:Nat}{x:Sg}(hk:k<r.length)(h:∀j,j<k->secV i r p j=none)(hx:secV i r p k=some x):secR i r p=some x:=by
 unfold secR;exact PK
def fI3(s:Sh)(p:Vc)(n:bG s)(H:Sm4 p):Sp 221 [shV s,vcV p] (.tup [sgV (secG0 (secS s p)), .lit (.bool (secS s p).isSome)]):=by
 refine zsp func221 ?_;have m:=fE1 s (iT n);have d:∀r∈rings s,dM r:=n.2.1;have y:(rings s).length<=7:=by unfold rings;simp;have:=n.1;omega
 have q:secS s p=secL p 0 (rings s):=rfl;generalize secS s p=X at*;generalize rings s=b at*;have z:(b.map rgV).length=b.length:=Af;repeat' ((conv=>whnf);first|refine zc m ?_|refine zS ?_|fail)
 refine aU (A:=List Rg) (B:=List Rg) (λD R=>mkSt [(2, .box 2 0),(3, .box 3 0),(4, .box 4 0),(6, .sl (b.map rgV)),(7,I D.length)] [(2,(shV s).cells),(3,(vcV p).cells),(4,[I 0,I 0,I 0,I 0])] []) (λD R=>b=D++R/\X=secL p D.length R) (λD R=>R.length) [] b ?_ ⟨rfl,q⟩ (λD R hq=>?_);refine Le.trans (fB (k:=15) rfl (.inl rfl)) ?_;exact zj;clear q;obtain⟨hq,g⟩:=hq;cases R with
 |nil=>
  have c:b.length=D.length:=Ap;have hx:X=none:=g;rw[hx];exact O1
 |cons r R=>
  have c:=aO hq;have v:=d r Ap;have G:=v.1;have w:=v.2.1;have C:(r.map vcV).length=r.length:=Af;repeat' ((conv=>whnf);first|omega|refine aB (l:=b) Aa ?_|refine aF (l:=b) (A:=D) (x:=r) (B:=R) hq Aa ?_|refine zS ?_|refine zT ?_ ?_<;>intro _|fail)
  refine lD (A:=Nat) (λk=>mkSt [(2, .box 2 0),(3, .box 3 0),(4, .box 4 0),(6, .sl (b.map rgV)),(7,I D.length),(8,rgV r),(9,I k)] [(2,(shV s).cells),(3,(vcV p).cells),(4,[I 0,I 0,I 0,I 0])] []) (λk=>k<=r.length/\∀j,j<k->secV D.length r p j=none) (λk=>r.length-k) 0 ?_ ⟨Aa,λj t=>absurd t Aa⟩ (λk u=>?_);exact zj;obtain⟨u,i⟩:=u;by_cases hkr:k<r.length;rotate_left
  ·have e:k=r.length:=by omega
   subst e;repeat' ((conv=>whnf);first|omega|refine zS ?_|refine zT ?_ ?_<;>intro _|fail)
   all_goals conv=>whnf
   refine⟨(D++[r],R),?_,⟨Ap,?_⟩,Af⟩;exact Jg;rw[g,secL,gC5 i,Q5,SA];rfl
  have hm1:(k+1)% r.length<r.length:=TM _ Aa;have hm2:(k+2)% r.length<r.length:=TM _ Aa;have hF:∀x,secV D.length r p k=some x->X=some x:=λx hx=>by rw[g,secL,gD9 hkr i hx];rfl
  have hN1:secV D.length r p k=none->∀j,j<k+1->secV D.length r p j=none:=λh j t=>by
   by_cases e:j=k;subst e;exact h;exact i j Aa
  have hV:secV D.length r p k=open Classical in if r.getD ((k+1)% r.length) z0=p then some (fE8 D.length (vsub (r.getD ((k+2)% r.length) z0) p,vsub (r.getD k z0) p))
   else if r.getD k z0≠p/\eX (r.getD k z0,r.getD ((k+1)% r.length) z0) p then some (fE8 D.length (vsub (r.getD ((k+1)% r.length) z0) (r.getD k z0),vsub (r.getD k z0) (r.getD ((k+1)% r.length) z0)))else none:=rfl
  generalize E:secV D.length r p k=F at*;generalize hva:r.getD k z0=f at*;generalize hvb:r.getD ((k+1)% r.length) z0=vb at*;generalize hvc:r.getD ((k+2)% r.length) z0=vc at*;have c1:=fD vc p;have c2:=fD f p;have c3:=fD vb f;have c4:=fD f vb;have c5:=fN7 (f,vb) p;by_cases o:0<D.length;have hfl:∀x:Sg,fE8 D.length x=(x.2,x.1):=λx=>Sj o;exact NU;have hfl:∀x:Sg,fE8 D.length x=x:=λx=>RZ o;exact NU
def gA8{c s:Sh}(a:bG c)(b:bG s):aO3 c s↔¬rJ c s [2]/\¬bL9 s c 0/\¬bL9 c s 2/\∀p∈rV c++rV s,fH8 c s p:=by
 grind [fI8,fT3,aO3,bD2]
def fR5(c s:Sh)(b:bG c)(d:bG s):Sp 180 [shV c,shV s] (DB (aO3 c s)):=by
 refine zsp func180 ?_;have G:=fP1 c s b d;have H:=fJ3 s c 0 d b;have J:=fJ3 c s 2 b d;have K:=fG7 c (iT b) b.1;have L:=fG7 s (iT d) d.1;have Z:=cG3 b;have v2:=cG3 d
 have n:∀p∈rV c++rV s,Sm4 p:=λp hp=>by
  rcases Sz.1 hp with hp|hp;exact fI8 b p hp;exact fI8 d p hp
 have f:=gA8 b d;generalize aO3 c s=P at*;generalize rJ c s [2] =U at*;generalize bL9 s c 0=V7 at*;generalize bL9 c s 2=W at*;generalize rV c=A at*;generalize rV s=B at*;have M:(A.map vcV).length=A.length:=Af;have N:(B.map vcV).length=B.length:=Af;repeat' ((conv=>whnf);first|refine zc G ?_|refine zc H ?_|refine zc J ?_|refine zc K ?_|refine zc L ?_|refine iH rfl (.inl rfl) rfl (Q9 rfl) (aM5 B) (by show(A.map vcV).length+(B.map vcV).length<=1000000000;omega) ?_|refine zS ?_|refine zT ?_ ?_<;>intro _|fail)
 all_goals conv=>whnf
 exact aA (aC (λh=>absurd Ag (f.1 h).1));exact aA (aC (λh=>absurd Ag (f.1 h).2.1));exact aA (aC (λh=>absurd Ag (f.1 h).2.2.1));have m:P↔∀p∈A++B,fH8 c s p:=⟨λh=>(f.1 h).2.2.2,λh=>f.2 ⟨Ag,Ag,Ag,h⟩⟩;clear f;have Q:(A++B).length=A.length+B.length:=Q5;have j:A.map vcV++B.map vcV=(A++B).map vcV:=Af;generalize T:A++B=C at*;have O:(C.map vcV).length=C.length:=Af;refine aU (A:=List Vc) (B:=List Vc) (λD R=>mkSt [(2, .box 2 0),(3, .box 3 0),(5, .sl (C.map vcV)),(6,I D.length)] [(2,(shV c).cells),(3,(shV s).cells)] []) (λD R=>C=D++R/\∀q∈D,fH8 c s q) (λD R=>R.length) [] C ?_ ⟨rfl,Af⟩ (λD R hp=>?_);rw[<-j];refine Le.trans (fB (k:=25) rfl (.inl rfl)) ?_;exact zj;obtain⟨hp,hD⟩:=hp;cases R with
 |nil=>
  have i:C.length=D.length:=Ae;repeat' ((conv=>whnf);first|omega|refine zS ?_|refine zT ?_ ?_<;>intro _|fail)
  all_goals conv=>whnf
  refine aA (fE (m.2 λq F=>?_));rw[hp,SB]at F;exact hD q F
 |cons q R=>
  have i:=aO hp;have e:q∈C:=Ae;have v:=fI3 c q b (n q e);have E:=fI3 s q d (n q e);have o:fH8 c s q↔∀x y,secS c q=some x->secS s q=some y->¬dI3 (x.2,x.1) y:=Tn;have a:fH8 c s q->∀z∈D++[q],fH8 c s z:=λh z hz=>Ko;generalize secS c q=X at*;generalize secS s q=Y at*;rcases X with _|x
  ·skip
   repeat' ((conv=>whnf);first|omega|refine cC0 [(2,2),(3,3),(5,999),(6,999),(37,999),(38,999),(39,999),(46,999),(47,999),(48,999),(7,7),(9,9)] Ad Ac ?_|refine aB (l:=C) Aa ?_|refine aF (l:=C) (A:=D) (x:=q) (B:=R) hp Aa ?_|refine zc v ?_|refine zc E ?_|refine zS ?_|refine zT ?_ ?_<;>intro _|fail)
   all_goals conv=>whnf
   refine⟨(D++[q],R),?_,⟨Ae,a (o.2 (λu w r=>by cases r))⟩,Af⟩;exact NQ
  rcases Y with _|y
  ·skip
   repeat' ((conv=>whnf);first|omega|refine cC0 [(2,2),(3,3),(5,999),(6,999),(37,999),(38,999),(39,999),(46,999),(47,999),(48,999),(7,7),(9,9)] Ad Ac ?_|refine aB (l:=C) Aa ?_|refine aF (l:=C) (A:=D) (x:=q) (B:=R) hp Aa ?_|refine zc v ?_|refine zc E ?_|refine zS ?_|refine zT ?_ ?_<;>intro _|fail)
   all_goals conv=>whnf
   refine⟨(D++[q],R),?_,⟨Ae,a (o.2 (λu w _ t=>by cases t))⟩,Af⟩;exact NQ
  have k:=fP9 (x.2,x.1) y
  have g:fH8 c s q↔¬dI3 (x.2,x.1) y:=by
   rw[o];constructor;intro h;exact h x y rfl rfl;intro h u w r t;cases r;cases t;exact h
  generalize dI3 (x.2,x.1) y=S at*;repeat' ((conv=>whnf);first|omega|refine cC0 [(2,2),(3,3),(5,999),(6,999),(37,999),(38,999),(39,999),(46,999),(47,999),(48,999),(7,7),(9,9)] Ad Ac ?_|refine aB (l:=C) Aa ?_|refine aF (l:=C) (A:=D) (x:=q) (B:=R) hp Aa ?_|refine zc v ?_|refine zc E ?_|refine zc k ?_|refine zS ?_|refine zT ?_ ?_<;>intro _|fail)
  all_goals conv=>whnf
  all_goals first
   |exact aA (aC (λh=>absurd Ag (g.1 (m.1 h q e))))
   |skip
  refine⟨(D++[q],R),?_,⟨Ae,a (g.2 Ag)⟩,Af⟩;exact NQ
def fG0(c s:Sh)(a:gV c)(d:gV s):Sp 145 [shV c,shV s] (.tup [DB (lI c s),I (pO c s)]):=by
 refine zsp func145 ?_;have m1:=aD7 c a;have m2:=aD7 s d;by_cases h1:bG c;by_cases h2:bG s;have e1:DB (lI c s)=DB (aO3 c s):=SK (λb=>V.lit (.bool b)) (fQ ⟨λh=>h.2.2,λh=>⟨h1,h2,h⟩⟩);have e2:pO c s=0:=Sj ⟨h1,h2⟩;have m3:=fR5 c s h1 h2;exact Pn;exact JI;exact JJ
def gE5(b:Bx)(v:Vc)(a:b.1.1<=b.2.1)(c:b.1.2<=b.2.2):(dQ (gU b v).1/\dQ (gU b v).2)↔(dQ b.1/\dQ b.2)/\dQ v:=by
 unfold dQ gU;simp only;constructor;grind;omega
def fS9:∀(l:List Vc) (b:Bx),b.1.1<=b.2.1->b.1.2<=b.2.2->((dQ (l.foldl gU b).1/\dQ (l.foldl gU b).2)↔(dQ b.1/\dQ b.2)/\∀v∈l,dQ v)
 | [],b,_,_=>⟨λh=>⟨h,λv hv=>by cases hv⟩,λh=>h.1⟩
 |v::l,b,a,c=>by
  rw[Ul,fS9 l (gU b v) (by unfold gU;simp only;omega) (by unfold gU;simp only;omega),gE5 b v a c];grind
def fX1{s:Sh}(h:bG s):(dQ (boxS s).1.1/\dQ (boxS s).1.2)↔∀v∈s.outer,dQ v:=by
 have a:dM s.outer:=h.2.1 _ AB;rw[eG7 h,dX3 a];have b:=a.1;generalize s.outer=r at*;cases r with
 |nil=>exact absurd b Af
 |cons v l=>
  show dQ (((v::l).foldl gU (v,v))).1/\dQ (((v::l).foldl gU (v,v))).2↔_;rw[fS9 (v::l) (v,v) (Int.le_refl _) (Int.le_refl _)];simp_all
def fJ2(s:Sh)(b:Fits s):Sp 143 [shV s] (DB (jV s)):=by
 by_cases h:bG s;exact fE6 s (iT h);rw[dbF (λq:jV s=>h q.1)];have a:=fQ3 s b;rw[dbF h]at a;refine zsp func143 ?_;repeat' ((conv=>whnf);first|(exfalso;contradiction)|refine zc a ?_|refine zS ?_|refine zm (λx c=>?_)|refine zT ?_ ?_<;>intro _|fail)
 all_goals exact zE
def fP7(s:jL)(S:tN s):Sp 103 [zJ s] (DB (dB s)):=by
 refine zsp func103 ?_;obtain⟨J,T,K⟩:=S;have N:=fK9 s.id s.grade s.heat;have y:=fJ2 s.shape J;by_cases j:jV s.shape;rotate_left
 ·rw[dbF (λq:dB s=>j q.2.2.2.1)]
  rw[dbF j]at y;repeat' ((conv=>whnf);first|refine zc N ?_|refine zc y ?_|refine zS ?_|refine zT ?_ ?_<;>intro _|fail)
  all_goals exact zE
 have u:=iT j.1;have L:=j.1;rw[dbT j]at y
 have m:dB s↔kZ s.id s.grade s.heat/\0<=s.grain/\s.grain<=2/\jV s.shape/\s.defects.length<=6/\(dQ (boxS s.shape).1.1/\dQ (boxS s.shape).1.2)/\∀d∈s.defects,qQ s.shape d:=
  ⟨λ⟨a,b,c,d,e,f,g,h⟩=>⟨a,b,c,d,e,⟨f,g⟩,h⟩,λ⟨a,b,c,d,e,⟨f,g⟩,h⟩=>⟨a,b,c,d,e,f,g,h⟩⟩
 have F:((dQ (boxS s.shape).1.1/\dQ (boxS s.shape).1.2)↔∀v∈s.shape.outer,dQ v):=fX1 L;have U:(s.defects.map shV).length=s.defects.length:=Af;have Q:(s.shape.outer.map vcV).length=s.shape.outer.length:=Af;have V:=u.1;have G:∀d,qQ s.shape d↔jV d/\pO s.shape d=0/\lI s.shape d:=λd=>Tn;generalize dB s=P at*;generalize kZ s.id s.grade s.heat=X at*;generalize (dQ (boxS s.shape).1.1/\dQ (boxS s.shape).1.2)=Y at*;repeat' ((conv=>whnf);first|refine zc N ?_|refine zc y ?_|refine zS ?_|refine zT ?_ ?_<;>intro _|fail)
 all_goals conv=>whnf
 all_goals first
  |exact aA (aC (λh=>absurd (m.1 h).1 Ag))
  |exact aA (aC (λh=>by have:=(m.1 h).2.1;have:=(m.1 h).2.2.1;have:=(m.1 h).2.2.2.2.1;omega))
  |skip
 have C:P↔(∀v∈s.shape.outer,dQ v)/\∀d∈s.defects,qQ s.shape d:=⟨λh=>⟨F.1 (m.1 h).2.2.2.2.2.1,(m.1 h).2.2.2.2.2.2⟩,λh=>m.2 ⟨Ag,Aa,Aa,Ag,Aa,F.2 h.1,h.2⟩⟩;clear m F;refine aU (A:=List Vc) (B:=List Vc) (λD R=>mkSt [(1, .box 1 0),(3,I D.length)] [(1,aA7 s)] []) (λD R=>s.shape.outer=D++R/\∀v∈D,dQ v) (λD R=>R.length) [] s.shape.outer ?_ ⟨rfl,Af⟩ (λD R hp=>?_);exact zj;obtain⟨hp,hD⟩:=hp;cases R with
 |cons v R=>
  have k:=aO hp;have M:v∈s.shape.outer:=Ae;have E:=fF5 v;have r:dQ v->∀z∈D++[v],dQ z:=λh z hz=>Ko;have t:¬dQ v->¬P:=λh q=>h ((C.1 q).1 v M);generalize dQ v=W at*;repeat' ((conv=>whnf);first|omega|refine aB (l:=s.shape.outer) Aa ?_|refine aF (l:=s.shape.outer) (A:=D) (x:=v) (B:=R) hp Aa ?_|refine zc E ?_|refine zS ?_|refine zT ?_ ?_<;>intro _|fail)
  all_goals conv=>whnf
  all_goals first
   |exact aA (aC (t Ag))
   |skip
  refine⟨(D++[v],R),?_,⟨Ae,r Ag⟩,Af⟩;exact NQ
 |nil=>
 have k:s.shape.outer.length=D.length:=Ae;have n:P↔∀d∈s.defects,qQ s.shape d:=⟨λh=>(C.1 h).2,λh=>C.2 ⟨λv hv=>Gt,h⟩⟩;clear C;repeat' ((conv=>whnf);first|omega|refine zS ?_|refine zT ?_ ?_<;>intro _|fail)
 refine aU (A:=List Sh) (B:=List Sh) (λD R=>mkSt [(1, .box 1 0),(4,I D.length)] [(1,aA7 s)] []) (λD R=>s.defects=D++R/\∀d∈D,qQ s.shape d) (λD R=>R.length) [] s.defects ?_ ⟨rfl,Af⟩ (λD R hp=>?_);exact zj;obtain⟨hp,hD⟩:=hp;cases R with
 |nil=>
  have k:s.defects.length=D.length:=Ae;repeat' ((conv=>whnf);first|omega|refine zS ?_|refine zT ?_ ?_<;>intro _|fail)
  all_goals conv=>whnf
  refine aA (fE (n.2 λd h=>?_));rw[hp,SB]at h;exact hD d h
 |cons d R=>
  have k:=aO hp;have o:d∈s.defects:=Ae;have w:=fJ2 d (K d o);have H:=G d;by_cases i:jV d;rotate_left
  ·rw[dbF i]at w
   repeat' ((conv=>whnf);first|omega|refine aB (l:=s.defects) Aa ?_|refine aF (l:=s.defects) (A:=D) (x:=d) (B:=R) hp Aa ?_|refine zc w ?_|refine zS ?_|refine zT ?_ ?_<;>intro _|fail)
   all_goals conv=>whnf
   exact aA (aC (λh=>i (H.1 (n.1 h d o)).1))
  rw[dbT i]at w;have E:=fG0 s.shape d u (iT i.1);have O:jV d->lI s.shape d->pO s.shape d=0:=λ_ h=>Sj ⟨h.1,h.2.1⟩;generalize pO s.shape d=Z at*;generalize lI s.shape d=q3 at*;repeat' ((conv=>whnf);first|omega|refine aB (l:=s.defects) Aa ?_|refine aF (l:=s.defects) (A:=D) (x:=d) (B:=R) hp Aa ?_|refine zc E ?_|refine zc w ?_|refine zS ?_|refine zT ?_ ?_<;>intro _|fail)
  all_goals conv=>whnf
  all_goals first
   |exact aA (aC (λh=>absurd (H.1 (n.1 h d o)).2.2 Ag))
   |skip
  refine⟨(D++[d],R),?_,⟨Ae,λz hz=>?_⟩,Af⟩;exact Jg;rcases Sz.1 hz with hz|hz;exact hD z hz;rw[S9.1 hz];exact H.2 ⟨i,O i Ag,Ag⟩
end Go.Proofs.Led
