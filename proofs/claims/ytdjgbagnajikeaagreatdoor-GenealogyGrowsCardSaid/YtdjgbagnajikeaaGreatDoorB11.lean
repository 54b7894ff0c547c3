/-
  Rectangles: small numbers, and the ring of a rectangle.
-/
import Derived.Test.YtdjgbagnajikeaaGreatDoorB5
set_option linter.unusedVariables false
set_option linter.unusedSimpArgs false
set_option maxRecDepth 100000
set_option maxHeartbeats 4000000
noncomputable section
namespace Go.Proofs.Led
open Go Go.Proofs Go.Ab
def Sm(n:Int):Prop:= -10000<=n/\n<=10000
theorem vG{a b:Int}(d:Sm a)(c:Sm b): -100000000<=a*b/\a*b<=100000000:=by
 have h:(a*b).natAbs<=10000*10000:=by
  rw[Int.natAbs_mul];unfold Sm at*;exact U5 Aa Aa
 omega
theorem kN{a b:Vc}(d:Sm (a.1-b.1))(c:Sm (a.2-b.2)):vsub a b=(a.1-b.1,a.2-b.2):=by
 grind [Sm,vsub,w_in]
theorem iK{a b:Vc}(f:Sm a.1)(e:Sm a.2)(d:Sm b.1)(c:Sm b.2):bZ a b=a.1*b.2-a.2*b.1:=by
 have h:=vG f c;have g:=vG e d
 grind [bZ,w_in]
theorem bY4{a b:Vc}(f:Sm a.1)(e:Sm a.2)(d:Sm b.1)(c:Sm b.2):vdot a b=a.1*b.1+a.2*b.2:=by
 have h:=vG f d;have g:=vG e c
 grind [vdot,w_in]
theorem tC{n:Int}:cmpI n 0≠0↔n≠0:=by
 grind [cmpI]
theorem qN{v:Vc}{m:Int}(e: -m<=v.1)(d:v.1<=m)(b: -m<=v.2)(c:v.2<=m)(a:0<=m/\m<=1000000):within v m:=by
 grind [within,w_in]
def rr(a b c d:Int):Rg:=[(a,b),(c,b),(c,d),(a,d)]
structure RB(a b c d:Int):Prop where
 x0:0<=a
 x1:a<c
 x2:c<=1900
 y0:0<=b
 y1:b<d
 y2:d<=1900
theorem uY{x y:Int}(b:0<x)(a:0<y):0<x*y:=Int.mul_pos b a
theorem bD6(a b c d:Int):bF (rr a b c d)=[((a,b),(c,b)),((c,b),(c,d)),((c,d),(a,d)),((a,d),(a,b))] :=Ac
theorem eU3(a b c d:Int):iU (rr a b c d) 0=(c,b):=Ac
theorem eV9(a b c d:Int):iU (rr a b c d) 1=(c,d):=Ac
theorem eU5(a b c d:Int):iU (rr a b c d) 2=(a,d):=Ac
theorem eV3(a b c d:Int):iU (rr a b c d) 3=(a,b):=Ac
theorem eV2(a b c d:Int):mY (rr a b c d) 0=(a,d):=Ac
theorem eV8(a b c d:Int):mY (rr a b c d) 1=(a,b):=Ac
theorem eU8(a b c d:Int):mY (rr a b c d) 2=(c,b):=Ac
theorem eV0(a b c d:Int):mY (rr a b c d) 3=(c,d):=Ac
theorem eL5{a b c d:Int}(h:RB a b c d):0<zY (rr a b c d):=by
 obtain⟨f,t,e,g,w,i⟩:=h;have s:∀n:Int,0<=n->n<=1900->Sm n:=λn B A=>⟨Aa,Aa⟩;have m:bZ (a,b) (c,b)=a*b-b*c:=iK (s a f Aa) (s b g Aa) (s c Aa e) (s b g Aa)
 have j:bZ (c,b) (c,d)=c*d-b*c:=iK (s c Aa e) (s b g Aa) (s c Aa e) (s d Aa i);have q:bZ (c,d) (a,d)=c*d-d*a:=iK (s c Aa e) (s d Aa i) (s a f Aa) (s d Aa i)
 have u:bZ (a,d) (a,b)=a*b-d*a:=iK (s a f Aa) (s d Aa i) (s a f Aa) (s b g Aa);have z:=vG (s a f Aa) (s b g Aa)
 have o:=vG (s b g Aa) (s c Aa e);have k:=vG (s c Aa e) (s d Aa i)
 have v:=vG (s d Aa i) (s a f Aa);have r:zY (rr a b c d)=W (W (W (W (0+bZ (a,b) (c,b))+bZ (c,b) (c,d))+bZ (c,d) (a,d))+bZ (a,d) (a,b)):=Ac
 have l:=uY (x:=c-a) (y:=d-b) Aa Aa;grind [Int.sub_mul,Int.mul_sub,Int.mul_comm,w_in]
theorem yN{u v w:Vc}(d:0<=u.1/\u.1<=1900/\0<=u.2/\u.2<=1900)(hv:0<=v.1/\v.1<=1900/\0<=v.2/\v.2<=1900)(a:0<=w.1/\w.1<=1900/\0<=w.2/\w.2<=1900):
 kR u v w=cmpI ((v.1-u.1)*(w.2-u.2)- (v.2-u.2)*(w.1-u.1)) 0:=by
 unfold kR;have s:∀m n:Int,0<=m->m<=1900->0<=n->n<=1900->Sm (m-n):=λm n f e b c=>⟨Aa,Aa⟩;grind [kN,iK]
theorem dX7{a b c d:Int}(h:RB a b c d):∀i,i< (rr a b c d).length->kR (mY (rr a b c d) i) ((rr a b c d).getD i z0) (iU (rr a b c d) i)≠0:=by
 obtain⟨j,k,g,l,n,m⟩:=h;intro i hi;have f:i<4:=hi;have e:i=0\/i=1\/i=2\/i=3:=Aa
 rcases e with rfl|rfl|rfl|rfl
 ·rw[eV2,eU3]
  show kR (a,d) (a,b) (c,b)≠0;exact Ot
 ·rw[eV8,eV9]
  show kR (a,b) (c,b) (c,d)≠0;exact Pj
 ·rw[eU8,eU5]
  show kR (c,b) (c,d) (a,d)≠0;exact Ot
 ·rw[eV0,eV3]
  show kR (c,d) (a,d) (a,b)≠0;exact Ot
def On19(v:Vc):Prop:=0<=v.1/\v.1<=1900/\0<=v.2/\v.2<=1900
theorem yC{s t:Sg}(d:On19 s.1)(c:On19 s.2)(b:On19 t.1)(a:On19 t.2):jC s t=(s.2.1-s.1.1)*(t.2.2-t.1.2)- (s.2.2-s.1.2)*(t.2.1-t.1.1):=by
 unfold On19 at*;have e:∀m n:Int,0<=m->m<=1900->0<=n->n<=1900->Sm (m-n):=λm n d c b a=>⟨Aa,Aa⟩;grind [kN,iK,jC]
theorem cL8{s t:Sg}(h:jC s t=0)(c:kR s.1 s.2 t.1≠0)(b:s.1≠s.2)(a:t.1≠t.2):dG s t=0:=by
 unfold dG kQ;split
 ·rfl
 ·rw[Q5 (λq=>q h),Q5 (λq=>b q.1),Q5 (λq=>a q.1),Q9 (.inr (.inr c))]
  rfl
theorem bL1{a b c d:Int}(h:RB a b c d):On19 (a,b)/\On19 (c,b)/\On19 (c,d)/\On19 (a,d):=by
 obtain⟨f,g,e,i,k,j⟩:=h;grind [On19]
theorem eT7{a b c d:Int}(h:RB a b c d):dG ((a,b),(c,b)) ((c,d),(a,d))=0:=by
 obtain⟨o,j,i,m⟩:=bL1 h;obtain⟨g,k,f,l,q,n⟩:=h;refine cL8 ?_ ?_ ?_ ?_
 ·grind [yC]
 ·show kR (a,b) (c,b) (c,d)≠0
  exact Pj
 ·intro e
  have:a=c:=Rh Prod.fst e;omega
 ·intro e
  have:c=a:=Rh Prod.fst e;omega
theorem eS9{a b c d:Int}(h:RB a b c d):dG ((c,b),(c,d)) ((a,d),(a,b))=0:=by
 obtain⟨o,j,i,m⟩:=bL1 h;obtain⟨g,k,f,l,q,n⟩:=h;refine cL8 ?_ ?_ ?_ ?_
 ·grind [yC]
 ·show kR (c,b) (c,d) (a,d)≠0
  exact Ot
 ·intro e
  have:b=d:=Rh Prod.snd e;omega
 ·intro e
  have:d=b:=Rh Prod.snd e;omega
theorem dB7{a b c d:Int}(h:RB a b c d):dM (rr a b c d):=by
 refine⟨(by decide:3<=4),(by decide:4<=40),?_,eL5 h,dX7 h,?_⟩
 ·obtain⟨m,n,l,o,q,p⟩:=h
  intro v hv;have j:v=(a,b)\/v=(c,b)\/v=(c,d)\/v=(a,d):=by simpa [rr]using hv
  grind [qN]
 ·intro i k f g
  have e:k<4:=g;rw[bD6];show k≠i+1->(i≠0\/k≠4-1)->_;grind [eT7,eS9]
def rS(a b c d:Int):Sh:=⟨rr a b c d,[]⟩
theorem bC0{a b c d:Int}(h:RB a b c d):bG (rS a b c d):=by
 refine⟨Ro 6,λr e=>?_,(by decide:4<=80),trivial⟩
 rw[QI.1 (show r∈[rr a b c d]from e)];exact dB7 h
theorem aG2{x m:Vc}:kF x m↔x.2<m.2\/(x.2=m.2/\x.1<m.1):=by
 grind [kF,vcmp,orI,cmpI]
theorem eG8{a b c d:Int}(h:RB a b c d):wL (rr a b c d)=rr a b c d:=by
 obtain⟨g,i,f,j,m,k⟩:=h
 have e:wO (rr a b c d)=(a,b):=by
  show sQ (a,b) [(c,b),(c,d),(a,d)] =(a,b);rw[wF,Q5 GY,wF,Q5 GY,wF,Q5 GY];rfl
 unfold wL;rw[e]
 have l:sN (a,b) (rr a b c d) 0=some 0:=by
  show sN (a,b) ((a,b)::_) 0=some 0;rw[sN,Q9 rfl]
 simp_all
theorem cP4{a b c d:Int}(h:RB a b c d):qO (rS a b c d)=rS a b c d:=by
 rw[aN9 (bC0 h)]
 have e:gQ (rS a b c d).outer=rr a b c d:=by
  show gQ (rr a b c d)=_;unfold gQ;rw[Q9 (dB7 h),eG8 h]
 rw[e];rfl
theorem cL4{x:Bx}{v:Vc}(h:RB (x.1.1-v.1) (x.1.2-v.2) (x.2.1-v.1) (x.2.2-v.2)):jT x v=rS (x.1.1-v.1) (x.1.2-v.2) (x.2.1-v.1) (x.2.2-v.2):=by
 have a:=h;obtain⟨c,d,b,f,i,g⟩:=h;show qO (sV (vsub x.1 v) (vsub x.2 v))=_;rw[kN ⟨Aa,Aa⟩ ⟨Aa,Aa⟩,kN ⟨Aa,Aa⟩ ⟨Aa,Aa⟩]
 have e:sV (x.1.1-v.1,x.1.2-v.2) (x.2.1-v.1,x.2.2-v.2)=rS (x.1.1-v.1) (x.1.2-v.2) (x.2.1-v.1) (x.2.2-v.2):=by
  unfold sV;rw[Q5]
  ·rfl
  ·grind [qN]
 rw[e];exact cP4 a
theorem gcd_one(n:Int):divisor n 1=1:=by
 have h:gcdI n 1=1:=by
  simp_all [Int.tmod_one,gcdI]
 unfold divisor;rw[h];decide
def Sm4(v:Vc):Prop:= -4000<=v.1/\v.1<=4000/\-4000<=v.2/\v.2<=4000
theorem within_iff{v:Vc}{m:Int}(a:0<=m/\m<=1000000):within v m↔-m<=v.1/\v.1<=m/\-m<=v.2/\v.2<=m:=by
 grind [within,w_in]
theorem jP{s:Sg}:bI s↔Sm4 s.1/\Sm4 s.2:=by
 unfold bI;rw[within_iff Aa,within_iff Aa];exact Rt
def X(u v:Vc):Int:=u.1*v.2-u.2*v.1
def dif(u v:Vc):Vc:=(u.1-v.1,u.2-v.2)
theorem xU{p q r s:Vc}(d:Sm4 p)(b:Sm4 q)(a:Sm4 r)(c:Sm4 s):bZ (vsub p q) (vsub r s)=X (dif p q) (dif r s):=by
 unfold Sm4 at*;rw[kN ⟨Aa,Aa⟩ ⟨Aa,Aa⟩,kN ⟨Aa,Aa⟩ ⟨Aa,Aa⟩,iK ⟨Ar,Ar⟩ ⟨Ar,Ar⟩ ⟨Ar,Ar⟩ ⟨Ar,Ar⟩];rfl
theorem X_bd{p q r s:Vc}(i:Sm4 p)(g:Sm4 q)(c:Sm4 r)(d:Sm4 s): -200000000<=X (dif p q) (dif r s)/\X (dif p q) (dif r s)<=200000000:=by
 unfold Sm4 at*;unfold X dif;simp only;have f:=vG (a:=p.1-q.1) (b:=r.2-s.2) ⟨Aa,Aa⟩ ⟨Aa,Aa⟩;have e:=vG (a:=p.2-q.2) (b:=r.1-s.1) ⟨Aa,Aa⟩ ⟨Aa,Aa⟩
 omega
def xD(s t:Sg):Int:=X (dif s.2 s.1) (dif t.2 t.1)
def xA(s t:Sg):Int:=X (dif t.1 s.1) (dif t.2 t.1)
def xB(s t:Sg):Int:=X (dif t.1 s.1) (dif s.2 s.1)
theorem aM8{s t:Sg}(e:bI s)(f:bI t):jC s t=xD s t/\lX s t=xA s t/\lS s t=xB s t:=by
 obtain⟨a,b⟩:=jP.1 e;obtain⟨c,d⟩:=jP.1 f;exact⟨xU b a d c,xU c a d c,xU c a b a⟩
theorem bd_D{s t:Sg}(e:bI s)(f:bI t):(-200000000<=xD s t/\xD s t<=200000000)/\(-200000000<=xA s t/\xA s t<=200000000)/\(-200000000<=xB s t/\xB s t<=200000000):=by
 obtain⟨a,b⟩:=jP.1 e;obtain⟨c,d⟩:=jP.1 f;exact⟨X_bd b a d c,X_bd c a d c,X_bd c a b a⟩
def Bb(s:Sg)(p:Vc):Prop:=min s.1.1 s.2.1<=p.1/\p.1<=max s.1.1 s.2.1/\min s.1.2 s.2.2<=p.2/\p.2<=max s.1.2 s.2.2
theorem eY3(s:Sg)(p:Vc):bJ8 (aC7 [s.1,s.2]).1 p↔Bb s p:=by
 have a:(aC7 [s.1,s.2]).1=((min s.1.1 s.2.1,min s.1.2 s.2.2),(max s.1.1 s.2.1,max s.1.2 s.2.2)):=by
  show gU (gU (s.1,s.1) s.1) s.2=_;grind [gU]
 rw[a];unfold bJ8 Bb;simp only
theorem eU4{s:Sg}{p:Vc}(a:bI s)(h:Bb s p):Sm4 p:=by
 grind [jP,Sm4,Bb]
theorem gZ{s:Sg}{p:Vc}(a:bI s):eX s p↔Bb s p/\X (dif s.2 s.1) (dif p s.1)=0:=by
 grind [jP,eY3,xU,eU4,tC,eX,kR]
theorem zH{a b c:Vc}(d:Sm4 a)(f:Sm4 b)(e:Sm4 c):kR a b c=cmpI (X (dif b a) (dif c a)) 0:=by
 unfold kR;rw[xU f d e d]
def uJ(a b d:Int):Int:=if a<0\/d<a\/b<0\/d<b then 0 else if a=0\/a=d\/b=0\/b=d then 1 else 2
theorem dI7{s t:Sg}(b:bI s)(d:bI t)(f:xD s t≠0):dG s t=if xD s t<0 then uJ (0-xA s t) (0-xB s t) (0-xD s t)else uJ (xA s t) (xB s t) (xD s t):=by
 obtain⟨c,g,e⟩:=aM8 b d;obtain⟨k,i,j⟩:=bd_D b d;unfold dG kQ;rw[Q5 (by rintro(h|h)<;>exact h Ag),Q9 (by rw[c];exact f)]
 unfold lines;rw[c,g,e];unfold turned;by_cases a:xD s t<0
 ·rw[Q9 a,Q9 a,w_in (n:=0-xA s t) Aa,w_in (n:=0-xB s t) Aa,w_in (n:=0-xD s t) Aa]
  simp only;unfold uJ;split
  ·rfl
  ·rfl
 ·rw[Q5 a,Q5 a]
  simp only;unfold uJ;split
  ·rfl
  ·rfl
theorem share{d k u v p:Int}(c:0<d)(h:d*(p-u)=k*(v-u))(f:0<=k)(g:k<=d):min u v<=p/\p<=max u v:=by
 rcases Int.lt_trichotomy u v with b|b|b
 ·have i:0<=k*(v-u):=Int.mul_nonneg f Aa
  have j:k*(v-u)<=d*(v-u):=Int.mul_le_mul_of_nonneg_right g Aa
  have l:0<=p-u:=by
   by_cases e:0<=p-u
   ·exact e
   ·have:=Int.mul_neg_of_pos_of_neg c (show p-u<0 from Aa);omega
  have m:p-u<=v-u:=Int.le_of_mul_le_mul_left (a:=d) Aa c;omega
 ·subst b
  rw[Int.sub_self,Int.mul_zero]at h;rcases Int.mul_eq_zero.1 h with h|h<;>omega
 ·have i:0<=k*(u-v):=Int.mul_nonneg f Aa
  have j:k*(u-v)<=d*(u-v):=Int.mul_le_mul_of_nonneg_right g Aa
  have n:d*(u-p)=k*(u-v):=by
   grind
  have l:0<=u-p:=by
   by_cases e:0<=u-p
   ·exact e
   ·have:=Int.mul_neg_of_pos_of_neg c (show u-p<0 from Aa);omega
  have m:u-p<=u-v:=Int.le_of_mul_le_mul_left (a:=d) Aa c;omega
theorem eJ0{d k u v p:Int}(j:0<d)(h:d*(p-u)=k*(v-u))(a:u≠v)(g:min u v<=p/\p<=max u v):0<=k/\k<=d:=by
 rcases Int.lt_or_gt_of_ne a with b|b
 ·have e:0<=d*(p-u):=Int.mul_nonneg Aa Aa
  have f:d*(p-u)<=d*(v-u):=Int.mul_le_mul_of_nonneg_left Aa Aa;constructor
  ·by_cases c:0<=k
   ·exact c
   ·have:=Int.mul_neg_of_neg_of_pos (show k<0 from Aa) (show 0<v-u from Aa);omega
  ·simp_all
 ·have i:d*(u-p)=k*(u-v):=by
   grind
  have e:0<=d*(u-p):=Int.mul_nonneg Aa Aa;have f:d*(u-p)<=d*(u-v):=Int.mul_le_mul_of_nonneg_left Aa Aa
  constructor
  ·by_cases c:0<=k
   ·exact c
   ·have:=Int.mul_neg_of_neg_of_pos (show k<0 from Aa) (show 0<u-v from Aa);omega
  ·simp_all
theorem nO{d k:Int}{u v p:Vc}(a:0<d)(i:d*(p.1-u.1)=k*(v.1-u.1))(l:d*(p.2-u.2)=k*(v.2-u.2))(g:u≠v):Bb (u,v) p↔0<=k/\k<=d:=by
 constructor
 ·rintro⟨c,b,f,e⟩
  by_cases h:u.1=v.1
  ·have:u.2≠v.2:=λn=>g (Prod.ext h n)
   exact eJ0 a l this ⟨f,e⟩
  ·exact eJ0 a i h ⟨c,b⟩
 ·rintro⟨j,m⟩
  obtain⟨c,b⟩:=share a i j m;obtain⟨f,e⟩:=share a l j m;exact⟨c,b,f,e⟩
theorem eC4(s t:Sg):xD s t*(t.1.1-s.1.1)=xA s t*(s.2.1-s.1.1)-xB s t*(t.2.1-t.1.1)/\xD s t*(t.1.2-s.1.2)=xA s t*(s.2.2-s.1.2)-xB s t*(t.2.2-t.1.2):=by
 unfold xD xA xB X dif;grind
theorem vK(s t:Sg):X (dif s.2 s.1) (dif t.1 s.1)= -xB s t/\X (dif s.2 s.1) (dif t.2 s.1)=xD s t-xB s t/\X (dif t.2 t.1) (dif s.1 t.1)=xA s t/\X (dif t.2 t.1) (dif s.2 t.1)=xA s t-xD s t:=by
 unfold xD xA xB X dif;grind
def Com(s t:Sg)(p:Vc):Prop:=eX s p/\eX t p
def uH(s t:Sg)(p:Vc):Prop:=p=s.1\/p=s.2\/p=t.1\/p=t.2
theorem rH{s:Sg}(a:bI s):eX s s.1:=by
 rw[gZ a];refine⟨by unfold Bb;omega,?_⟩
 unfold X dif;simp
theorem cN1{s:Sg}(a:bI s):eX s s.2:=by
 rw[gZ a];refine⟨by unfold Bb;omega,?_⟩
 unfold X dif;simp only;rw[Int.mul_comm];omega
structure Cr(s t:Sg)(a b d:Int):Prop where
 pos:0<d
 e1:d*(t.1.1-s.1.1)=a*(s.2.1-s.1.1)-b*(t.2.1-t.1.1)
 e2:d*(t.1.2-s.1.2)=a*(s.2.2-s.1.2)-b*(t.2.2-t.1.2)
 kA:xA s t=0↔a=0
 kA':xA s t=xD s t↔a=d
 kB:xB s t=0↔b=0
 kB':xB s t=xD s t↔b=d
theorem eS6{s t:Sg}{a b d:Int}(o:bI s)(n:bI t)(w:xD s t≠0)(h:Cr s t a b d):
 (eX t s.1↔a=0/\0<=b/\b<=d)/\(eX t s.2↔a=d/\0<=b/\b<=d)/\(eX s t.1↔b=0/\0<=a/\a<=d)/\(eX s t.2↔b=d/\0<=a/\a<=d):=by
 obtain⟨z,y,A,B⟩:=vK s t
 have g:s.1≠s.2:=by
  intro e;apply w;unfold xD X dif;rw[e];simp
 have j:t.1≠t.2:=by
  intro e;apply w;unfold xD X dif;rw[e];simp
 obtain⟨c,D,C,r,m,x,k⟩:=h;rw[gZ n,gZ n,gZ o,gZ o,z,y,A,B];refine⟨?_,?_,?_,?_⟩
 ·constructor
  ·rintro⟨i,l⟩
   have f:=r.1 l;subst f;refine⟨rfl,(nO (u:=t.1) (v:=t.2) (p:=s.1) c ?_ ?_ j).1 i⟩
   ·grind
   ·grind
  ·rintro⟨f,q⟩
   subst f;refine⟨(nO (u:=t.1) (v:=t.2) (p:=s.1) c ?_ ?_ j).2 q,r.2 rfl⟩
   ·grind
   ·grind
 ·constructor
  ·rintro⟨i,l⟩
   have f:=m.1 Aa;subst f;refine⟨rfl,(nO (u:=t.1) (v:=t.2) (p:=s.2) c ?_ ?_ j).1 i⟩
   ·grind
   ·grind
  ·rintro⟨f,q⟩
   subst f;grind [nO]
 ·constructor
  ·rintro⟨i,l⟩
   have f:=x.1 Aa;subst f;refine⟨rfl,(nO (u:=s.1) (v:=s.2) (p:=t.1) c ?_ ?_ g).1 i⟩
   ·grind
   ·grind
  ·rintro⟨f,q⟩
   subst f;refine⟨(nO (u:=s.1) (v:=s.2) (p:=t.1) c ?_ ?_ g).2 q,by have:=x.2 rfl;omega⟩
   ·grind
   ·grind
 ·constructor
  ·rintro⟨i,l⟩
   have f:=k.1 Aa;subst f;refine⟨rfl,(nO (u:=s.1) (v:=s.2) (p:=t.2) c ?_ ?_ g).1 i⟩
   ·grind
   ·grind
  ·rintro⟨f,q⟩
   subst f;refine⟨(nO (u:=s.1) (v:=s.2) (p:=t.2) c ?_ ?_ g).2 q,by have:=k.2 rfl;omega⟩
   ·grind
   ·grind
theorem cr_of{s t:Sg}(c:xD s t≠0):Cr s t (if xD s t<0 then 0-xA s t else xA s t) (if xD s t<0 then 0-xB s t else xB s t) (if xD s t<0 then 0-xD s t else xD s t):=by
 obtain⟨b,a⟩:=eC4 s t;by_cases h:xD s t<0
 ·rw[Q9 h,Q9 h,Q9 h]
  exact⟨Aa,CP,CP,Aa,Aa,Aa,Aa⟩
 ·rw[Q5 h,Q5 h,Q5 h]
  exact⟨Aa,b,a,Rt,Rt,Rt,Rt⟩
theorem aL3{u v w:Vc}(f:X u w=0)(d:X v w=0)(a:w≠(0,0)):X u v=0:=by
 unfold X at*;by_cases h:w.1=0
 ·have c:w.2≠0:=λb=>a (Prod.ext h b)
  have e:w.2*(u.1*v.2-u.2*v.1)=0:=by
   grind
  grind [Int.mul_eq_zero]
 ·have e:w.1*(u.1*v.2-u.2*v.1)=0:=by grind
  rcases Int.mul_eq_zero.1 e with e|e
  ·exact absurd e h
  ·exact e
theorem eO4{s t:Sg}(b:bI s)(c:bI t)(k:xD s t≠0){p q:Vc}(a:Com s t p)(d:Com s t q):p=q:=by
 by_cases h:p=q
 ·exact h
 exfalso;apply k;have g:=((gZ b).1 a.1).2;have i:=((gZ b).1 d.1).2
 have j:=((gZ c).1 a.2).2;have f:=((gZ c).1 d.2).2
 refine aL3 (u:=dif s.2 s.1) (v:=dif t.2 t.1) (w:=dif p q) ?_ ?_ ?_
 ·have e:X (dif s.2 s.1) (dif p q)=X (dif s.2 s.1) (dif p s.1)-X (dif s.2 s.1) (dif q s.1):=by unfold X dif;simp only;grind
  rw[e,g,i];rfl
 ·have e:X (dif t.2 t.1) (dif p q)=X (dif t.2 t.1) (dif p t.1)-X (dif t.2 t.1) (dif q t.1):=by unfold X dif;simp only;grind
  rw[e,j,f];rfl
 ·intro e
  apply h;have l:p.1-q.1=0:=Rh Prod.fst e;have m:p.2-q.2=0:=Rh Prod.snd e
  exact Prod.ext Aa Aa
def zT9(s t:Sg):Prop:=kR s.1 s.2 t.1*kR s.1 s.2 t.2<0/\kR t.1 t.2 s.1*kR t.1 t.2 s.2<0
theorem cmp_neg{m n:Int}:cmpI m 0*cmpI n 0<0↔(m<0/\0<n)\/(0<m/\n<0):=by
 grind [cmpI]
theorem wY{s t:Sg}(a:bI s)(b:bI t):zT9 s t↔((-xB s t<0/\0<xD s t-xB s t)\/(0< -xB s t/\xD s t-xB s t<0))/\((xA s t<0/\0<xA s t-xD s t)\/(0<xA s t/\xA s t-xD s t<0)):=by
 grind [jP,vK,zH,cmp_neg,zT9]
structure bT6(s t:Sg)(k:Int):Prop where
 over:k=3↔∃p q,uH s t p/\uH s t q/\p≠q/\Com s t p/\Com s t q
 touch:(∃p,uH s t p/\Com s t p)↔k=1\/k=3
 cross:k=2↔(¬∃p,uH s t p/\Com s t p)/\zT9 s t
theorem eK8{s t:Sg}(e:bI s)(g:bI t)(k:xD s t≠0):bT6 s t (dG s t):=by
 have l:=cr_of (s:=s) (t:=t) k;obtain⟨v,q,n,r⟩:=eS6 e g k l;have j:=wY e g
 have u:dG s t=uJ (if xD s t<0 then 0-xA s t else xA s t) (if xD s t<0 then 0-xB s t else xB s t) (if xD s t<0 then 0-xD s t else xD s t):=by
  rw[dI7 e g k];split<;>rfl
 have m:=l.pos
 have f:zT9 s t↔(0< (if xD s t<0 then 0-xB s t else xB s t)/\(if xD s t<0 then 0-xB s t else xB s t)< (if xD s t<0 then 0-xD s t else xD s t))/\(0< (if xD s t<0 then 0-xA s t else xA s t)/\(if xD s t<0 then 0-xA s t else xA s t)< (if xD s t<0 then 0-xD s t else xD s t)):=by
  rw[j];omega
 generalize (if xD s t<0 then 0-xA s t else xA s t)=a at*
 generalize (if xD s t<0 then 0-xB s t else xB s t)=b at*
 generalize (if xD s t<0 then 0-xD s t else xD s t)=d at*
 have c:(∃p,uH s t p/\Com s t p)↔uJ a b d=1:=by
  constructor
  ·rintro⟨p,o,y,x⟩
   unfold uJ;rcases o with rfl|rfl|rfl|rfl
   ·grind
   ·grind
   ·grind
   ·grind
  ·intro h
   unfold uJ at h;split at h
   ·cases h
   ·split at h
    ·rename_i w i
     rcases i with i|i|i|i
     ·exact⟨s.1, .inl rfl,rH e,v.2 Aa⟩
     ·exact⟨s.2, .inr (.inl rfl),cN1 e,q.2 Aa⟩
     ·exact⟨t.1, .inr (.inr (.inl rfl)),n.2 Aa,rH g⟩
     ·exact⟨t.2, .inr (.inr (.inr rfl)),r.2 Aa,cN1 g⟩
    ·cases h
 have hv:uJ a b d=0\/uJ a b d=1\/uJ a b d=2:=by
  unfold uJ;split
  ·simp
  ·split<;>simp
 rw[u];refine⟨⟨λh=>Aa,?_⟩,?_,?_⟩
 ·grind [eO4]
 ·rw[c];omega
 ·rw[c,f]
  unfold uJ;omega
end Go.Proofs.Led
