/-
  Rectangles: small numbers, and the ring of a rectangle.
-/
import Derived.Test.YtdjgbagnajikeaaGreatDoorB4
set_option linter.unusedVariables false
set_option linter.unusedSimpArgs false
set_option maxRecDepth 100000
set_option maxHeartbeats 4000000
noncomputable section
namespace Go.Proofs.Led
open Go Go.Proofs Go.Ab
def Sm(n:Int):Prop:= -10000<=n/\n<=10000
theorem vG{a b:Int}(c:Sm a)(d:Sm b): -100000000<=a*b/\a*b<=100000000:=by
 have h:(a*b).natAbs<=10000*10000:=by
  rw[Int.natAbs_mul];unfold Sm at*;exact UF Aa Aa
 omega
theorem kN{a b:Vc}(c:Sm (a.1-b.1))(d:Sm (a.2-b.2)):vsub a b=(a.1-b.1,a.2-b.2):=by
 grind [Sm,vsub,w_in]
theorem iK{a b:Vc}(c:Sm a.1)(d:Sm a.2)(e:Sm b.1)(f:Sm b.2):bZ a b=a.1*b.2-a.2*b.1:=by
 have g:=vG c f;have h:=vG d e
 grind [bZ,w_in]
theorem bY4{a b:Vc}(c:Sm a.1)(d:Sm a.2)(e:Sm b.1)(f:Sm b.2):vdot a b=a.1*b.1+a.2*b.2:=by
 have g:=vG c e;have h:=vG d f
 grind [vdot,w_in]
theorem tC{n:Int}:cmpI n 0≠0↔n≠0:=by
 grind [cmpI]
theorem qN{v:Vc}{m:Int}(a: -m<=v.1)(b:v.1<=m)(c: -m<=v.2)(d:v.2<=m)(e:0<=m/\m<=1000000):within v m:=by
 grind [within,w_in]
def rr(a b c d:Int):Rg:=[(a,b),(c,b),(c,d),(a,d)]
structure RB(a b c d:Int):Prop where
 x0:0<=a
 x1:a<c
 x2:c<=1900
 y0:0<=b
 y1:b<d
 y2:d<=1900
theorem uY{x y:Int}(a:0<x)(b:0<y):0<x*y:=Int.mul_pos a b
theorem bD6(a b c d:Int):bF (rr a b c d)=[((a,b),(c,b)),((c,b),(c,d)),((c,d),(a,d)),((a,d),(a,b))] :=Ac
theorem eU3(a b c d:Int):iU (rr a b c d) 0=(c,b):=Ac
theorem eV9(a b c d:Int):iU (rr a b c d) 1=(c,d):=Ac
theorem eU5(a b c d:Int):iU (rr a b c d) 2=(a,d):=Ac
theorem eV3(a b c d:Int):iU (rr a b c d) 3=(a,b):=Ac
theorem eV2(a b c d:Int):mY (rr a b c d) 0=(a,d):=Ac
theorem eV8(a b c d:Int):mY (rr a b c d) 1=(a,b):=Ac
theorem eU8(a b c d:Int):mY (rr a b c d) 2=(c,b):=Ac
theorem eV0(a b c d:Int):mY (rr a b c d) 3=(c,d):=Ac
theorem eL5{a b c d:Int}(h:RB a b c d):0<zY (rr a b c d):=by
 obtain⟨e,A,f,g,B,i⟩:=h;have s:∀n:Int,0<=n->n<=1900->Sm n:=λn o q=>⟨Aa,Aa⟩;have j:bZ (a,b) (c,b)=a*b-b*c:=iK (s a e Aa) (s b g Aa) (s c Aa f) (s b g Aa)
 have k:bZ (c,b) (c,d)=c*d-b*c:=iK (s c Aa f) (s b g Aa) (s c Aa f) (s d Aa i);have l:bZ (c,d) (a,d)=c*d-d*a:=iK (s c Aa f) (s d Aa i) (s a e Aa) (s d Aa i)
 have m:bZ (a,d) (a,b)=a*b-d*a:=iK (s a e Aa) (s d Aa i) (s a e Aa) (s b g Aa);have u:=vG (s a e Aa) (s b g Aa)
 have v:=vG (s b g Aa) (s c Aa f);have w:=vG (s c Aa f) (s d Aa i)
 have z:=vG (s d Aa i) (s a e Aa);have r:zY (rr a b c d)=W (W (W (W (0+bZ (a,b) (c,b))+bZ (c,b) (c,d))+bZ (c,d) (a,d))+bZ (a,d) (a,b)):=Ac
 have t:=uY (x:=c-a) (y:=d-b) Aa Aa;grind [Int.sub_mul,Int.mul_sub,Int.mul_comm,w_in]
theorem yN{u v w:Vc}(e:0<=u.1/\u.1<=1900/\0<=u.2/\u.2<=1900)(hv:0<=v.1/\v.1<=1900/\0<=v.2/\v.2<=1900)(f:0<=w.1/\w.1<=1900/\0<=w.2/\w.2<=1900):
 kR u v w=cmpI ((v.1-u.1)*(w.2-u.2)- (v.2-u.2)*(w.1-u.1)) 0:=by
 unfold kR;have s:∀m n:Int,0<=m->m<=1900->0<=n->n<=1900->Sm (m-n):=λm n a b c d=>⟨Aa,Aa⟩;grind [kN,iK]
theorem dX7{a b c d:Int}(h:RB a b c d):∀i,i< (rr a b c d).length->kR (mY (rr a b c d) i) ((rr a b c d).getD i z0) (iU (rr a b c d) i)≠0:=by
 obtain⟨g,j,k,l,m,n⟩:=h;intro i hi;have f:i<4:=hi;have e:i=0\/i=1\/i=2\/i=3:=Aa
 rcases e with rfl|rfl|rfl|rfl
 ·rw[eV2,eU3]
  show kR (a,d) (a,b) (c,b)≠0;exact O8
 ·rw[eV8,eV9]
  show kR (a,b) (c,b) (c,d)≠0;exact PD
 ·rw[eU8,eU5]
  show kR (c,b) (c,d) (a,d)≠0;exact O8
 ·rw[eV0,eV3]
  show kR (c,d) (a,d) (a,b)≠0;exact O8
def On19(v:Vc):Prop:=0<=v.1/\v.1<=1900/\0<=v.2/\v.2<=1900
theorem yC{s t:Sg}(a:On19 s.1)(b:On19 s.2)(c:On19 t.1)(d:On19 t.2):jC s t=(s.2.1-s.1.1)*(t.2.2-t.1.2)- (s.2.2-s.1.2)*(t.2.1-t.1.1):=by
 unfold On19 at*;have e:∀m n:Int,0<=m->m<=1900->0<=n->n<=1900->Sm (m-n):=λm n a b c d=>⟨Aa,Aa⟩;grind [kN,iK,jC]
theorem cL8{s t:Sg}(h:jC s t=0)(a:kR s.1 s.2 t.1≠0)(b:s.1≠s.2)(c:t.1≠t.2):dG s t=0:=by
 unfold dG kQ;split
 ·rfl
 ·rw[Q5 (λq=>q h),Q5 (λq=>b q.1),Q5 (λq=>c q.1),QO (.inr (.inr a))]
  rfl
theorem bL1{a b c d:Int}(h:RB a b c d):On19 (a,b)/\On19 (c,b)/\On19 (c,d)/\On19 (a,d):=by
 obtain⟨e,f,g,i,j,k⟩:=h;grind [On19]
theorem eT7{a b c d:Int}(h:RB a b c d):dG ((a,b),(c,b)) ((c,d),(a,d))=0:=by
 obtain⟨f,g,i,j⟩:=bL1 h;obtain⟨k,l,m,n,o,q⟩:=h;refine cL8 ?_ ?_ ?_ ?_
 ·grind [yC]
 ·show kR (a,b) (c,b) (c,d)≠0
  exact PD
 ·intro e
  have:a=c:=Ry Prod.fst e;omega
 ·intro e
  have:c=a:=Ry Prod.fst e;omega
theorem eS9{a b c d:Int}(h:RB a b c d):dG ((c,b),(c,d)) ((a,d),(a,b))=0:=by
 obtain⟨f,g,i,j⟩:=bL1 h;obtain⟨k,l,m,n,o,q⟩:=h;refine cL8 ?_ ?_ ?_ ?_
 ·grind [yC]
 ·show kR (c,b) (c,d) (a,d)≠0
  exact O8
 ·intro e
  have:b=d:=Ry Prod.snd e;omega
 ·intro e
  have:d=b:=Ry Prod.snd e;omega
theorem dB7{a b c d:Int}(h:RB a b c d):dM (rr a b c d):=by
 refine⟨(by decide:3<=4),(by decide:4<=40),?_,eL5 h,dX7 h,?_⟩
 ·obtain⟨l,m,n,o,p,q⟩:=h
  intro v hv;have j:v=(a,b)\/v=(c,b)\/v=(c,d)\/v=(a,d):=by simpa [rr]using hv
  grind [qN]
 ·intro i k e f
  have g:k<4:=f;rw[bD6];show k≠i+1->(i≠0\/k≠4-1)->_;grind [eT7,eS9]
def rS(a b c d:Int):Sh:=⟨rr a b c d,[]⟩
theorem bC0{a b c d:Int}(h:RB a b c d):bG (rS a b c d):=by
 refine⟨RI 6,λr e=>?_,(by decide:4<=80),trivial⟩
 rw[QW.1 (show r∈[rr a b c d]from e)];exact dB7 h
theorem aG2{x m:Vc}:kF x m↔x.2<m.2\/(x.2=m.2/\x.1<m.1):=by
 grind [kF,vcmp,orI,cmpI]
theorem eG8{a b c d:Int}(h:RB a b c d):wL (rr a b c d)=rr a b c d:=by
 obtain⟨g,i,j,k,l,m⟩:=h
 have e:wO (rr a b c d)=(a,b):=by
  show sQ (a,b) [(c,b),(c,d),(a,d)] =(a,b);rw[wF,Q5 GZ,wF,Q5 GZ,wF,Q5 GZ];rfl
 unfold wL;rw[e]
 have f:sN (a,b) (rr a b c d) 0=some 0:=by
  show sN (a,b) ((a,b)::_) 0=some 0;rw[sN,QO rfl]
 simp_all
theorem cP4{a b c d:Int}(h:RB a b c d):qO (rS a b c d)=rS a b c d:=by
 rw[aN9 (bC0 h)]
 have e:gQ (rS a b c d).outer=rr a b c d:=by
  show gQ (rr a b c d)=_;unfold gQ;rw[QO (dB7 h),eG8 h]
 rw[e];rfl
theorem cL4{x:Bx}{v:Vc}(h:RB (x.1.1-v.1) (x.1.2-v.2) (x.2.1-v.1) (x.2.2-v.2)):jT x v=rS (x.1.1-v.1) (x.1.2-v.2) (x.2.1-v.1) (x.2.2-v.2):=by
 have a:=h;obtain⟨b,c,d,f,g,i⟩:=h;show qO (sV (vsub x.1 v) (vsub x.2 v))=_;rw[kN ⟨Aa,Aa⟩ ⟨Aa,Aa⟩,kN ⟨Aa,Aa⟩ ⟨Aa,Aa⟩]
 have e:sV (x.1.1-v.1,x.1.2-v.2) (x.2.1-v.1,x.2.2-v.2)=rS (x.1.1-v.1) (x.1.2-v.2) (x.2.1-v.1) (x.2.2-v.2):=by
  unfold sV;rw[Q5]
  ·rfl
  ·grind [qN]
 rw[e];exact cP4 a
theorem gcd_one(n:Int):divisor n 1=1:=by
 have h:gcdI n 1=1:=by
  simp_all [Int.tmod_one,gcdI]
 unfold divisor;rw[h];decide
def Sm4(v:Vc):Prop:= -4000<=v.1/\v.1<=4000/\-4000<=v.2/\v.2<=4000
theorem within_iff{v:Vc}{m:Int}(a:0<=m/\m<=1000000):within v m↔-m<=v.1/\v.1<=m/\-m<=v.2/\v.2<=m:=by
 grind [within,w_in]
theorem jP{s:Sg}:bI s↔Sm4 s.1/\Sm4 s.2:=by
 unfold bI;rw[within_iff Aa,within_iff Aa];exact RN
def X(u v:Vc):Int:=u.1*v.2-u.2*v.1
def dif(u v:Vc):Vc:=(u.1-v.1,u.2-v.2)
theorem xU{p q r s:Vc}(a:Sm4 p)(b:Sm4 q)(c:Sm4 r)(d:Sm4 s):bZ (vsub p q) (vsub r s)=X (dif p q) (dif r s):=by
 unfold Sm4 at*;rw[kN ⟨Aa,Aa⟩ ⟨Aa,Aa⟩,kN ⟨Aa,Aa⟩ ⟨Aa,Aa⟩,iK ⟨Ar,Ar⟩ ⟨Ar,Ar⟩ ⟨Ar,Ar⟩ ⟨Ar,Ar⟩];rfl
theorem X_bd{p q r s:Vc}(c:Sm4 p)(d:Sm4 q)(e:Sm4 r)(f:Sm4 s): -200000000<=X (dif p q) (dif r s)/\X (dif p q) (dif r s)<=200000000:=by
 unfold Sm4 at*;unfold X dif;simp only;have g:=vG (a:=p.1-q.1) (b:=r.2-s.2) ⟨Aa,Aa⟩ ⟨Aa,Aa⟩;have i:=vG (a:=p.2-q.2) (b:=r.1-s.1) ⟨Aa,Aa⟩ ⟨Aa,Aa⟩
 omega
def xD(s t:Sg):Int:=X (dif s.2 s.1) (dif t.2 t.1)
def xA(s t:Sg):Int:=X (dif t.1 s.1) (dif t.2 t.1)
def xB(s t:Sg):Int:=X (dif t.1 s.1) (dif s.2 s.1)
theorem aM8{s t:Sg}(e:bI s)(f:bI t):jC s t=xD s t/\lX s t=xA s t/\lS s t=xB s t:=by
 obtain⟨a,b⟩:=jP.1 e;obtain⟨c,d⟩:=jP.1 f;exact⟨xU b a d c,xU c a d c,xU c a b a⟩
theorem bd_D{s t:Sg}(e:bI s)(f:bI t):(-200000000<=xD s t/\xD s t<=200000000)/\(-200000000<=xA s t/\xA s t<=200000000)/\(-200000000<=xB s t/\xB s t<=200000000):=by
 obtain⟨a,b⟩:=jP.1 e;obtain⟨c,d⟩:=jP.1 f;exact⟨X_bd b a d c,X_bd c a d c,X_bd c a b a⟩
def Bb(s:Sg)(p:Vc):Prop:=min s.1.1 s.2.1<=p.1/\p.1<=max s.1.1 s.2.1/\min s.1.2 s.2.2<=p.2/\p.2<=max s.1.2 s.2.2
theorem eY3(s:Sg)(p:Vc):bJ8 (aC7 [s.1,s.2]).1 p↔Bb s p:=by
 have a:(aC7 [s.1,s.2]).1=((min s.1.1 s.2.1,min s.1.2 s.2.2),(max s.1.1 s.2.1,max s.1.2 s.2.2)):=by
  show gU (gU (s.1,s.1) s.1) s.2=_;grind [gU]
 rw[a];unfold bJ8 Bb;simp only
theorem eU4{s:Sg}{p:Vc}(a:bI s)(h:Bb s p):Sm4 p:=by
 grind [jP,Sm4,Bb]
theorem gZ{s:Sg}{p:Vc}(a:bI s):eX s p↔Bb s p/\X (dif s.2 s.1) (dif p s.1)=0:=by
 grind [jP,eY3,xU,eU4,tC,eX,kR]
theorem zH{a b c:Vc}(d:Sm4 a)(e:Sm4 b)(f:Sm4 c):kR a b c=cmpI (X (dif b a) (dif c a)) 0:=by
 unfold kR;rw[xU e d f d]
def uJ(a b d:Int):Int:=if a<0\/d<a\/b<0\/d<b then 0 else if a=0\/a=d\/b=0\/b=d then 1 else 2
theorem dI7{s t:Sg}(c:bI s)(d:bI t)(g:xD s t≠0):dG s t=if xD s t<0 then uJ (0-xA s t) (0-xB s t) (0-xD s t)else uJ (xA s t) (xB s t) (xD s t):=by
 obtain⟨b,e,f⟩:=aM8 c d;obtain⟨i,j,k⟩:=bd_D c d;unfold dG kQ;rw[Q5 (by rintro(h|h)<;>exact h Ag),QO (by rw[b];exact g)]
 unfold lines;rw[b,e,f];unfold turned;by_cases a:xD s t<0
 ·rw[QO a,QO a,w_in (n:=0-xA s t) Aa,w_in (n:=0-xB s t) Aa,w_in (n:=0-xD s t) Aa]
  simp only;unfold uJ;split
  ·rfl
  ·rfl
 ·rw[Q5 a,Q5 a]
  simp only;unfold uJ;split
  ·rfl
  ·rfl
theorem share{d k u v p:Int}(c:0<d)(h:d*(p-u)=k*(v-u))(f:0<=k)(g:k<=d):min u v<=p/\p<=max u v:=by
 rcases Int.lt_trichotomy u v with b|b|b
 ·have i:0<=k*(v-u):=Int.mul_nonneg f Aa
  have j:k*(v-u)<=d*(v-u):=Int.mul_le_mul_of_nonneg_right g Aa
  have l:0<=p-u:=by
   by_cases e:0<=p-u
   ·exact e
   ·have:=Int.mul_neg_of_pos_of_neg c (show p-u<0 from Aa);omega
  have m:p-u<=v-u:=Int.le_of_mul_le_mul_left (a:=d) Aa c;omega
 ·subst b
  rw[Int.sub_self,Int.mul_zero]at h;rcases Int.mul_eq_zero.1 h with h|h<;>omega
 ·have i:0<=k*(u-v):=Int.mul_nonneg f Aa
  have j:k*(u-v)<=d*(u-v):=Int.mul_le_mul_of_nonneg_right g Aa
  have n:d*(u-p)=k*(u-v):=by
   grind
  have l:0<=u-p:=by
   by_cases e:0<=u-p
   ·exact e
   ·have:=Int.mul_neg_of_pos_of_neg c (show u-p<0 from Aa);omega
  have m:u-p<=u-v:=Int.le_of_mul_le_mul_left (a:=d) Aa c;omega
theorem eJ0{d k u v p:Int}(j:0<d)(h:d*(p-u)=k*(v-u))(a:u≠v)(i:min u v<=p/\p<=max u v):0<=k/\k<=d:=by
 rcases Int.lt_or_gt_of_ne a with c|c
 ·have e:0<=d*(p-u):=Int.mul_nonneg Aa Aa
  have f:d*(p-u)<=d*(v-u):=Int.mul_le_mul_of_nonneg_left Aa Aa;constructor
  ·by_cases b:0<=k
   ·exact b
   ·have:=Int.mul_neg_of_neg_of_pos (show k<0 from Aa) (show 0<v-u from Aa);omega
  ·simp_all
 ·have g:d*(u-p)=k*(u-v):=by
   grind
  have e:0<=d*(u-p):=Int.mul_nonneg Aa Aa;have f:d*(u-p)<=d*(u-v):=Int.mul_le_mul_of_nonneg_left Aa Aa
  constructor
  ·by_cases b:0<=k
   ·exact b
   ·have:=Int.mul_neg_of_neg_of_pos (show k<0 from Aa) (show 0<u-v from Aa);omega
  ·simp_all
theorem nO{d k:Int}{u v p:Vc}(a:0<d)(i:d*(p.1-u.1)=k*(v.1-u.1))(j:d*(p.2-u.2)=k*(v.2-u.2))(g:u≠v):Bb (u,v) p↔0<=k/\k<=d:=by
 constructor
 ·rintro⟨b,c,e,f⟩
  by_cases h:u.1=v.1
  ·have:u.2≠v.2:=λn=>g (Prod.ext h n)
   exact eJ0 a j this ⟨e,f⟩
  ·exact eJ0 a i h ⟨b,c⟩
 ·rintro⟨l,m⟩
  obtain⟨b,c⟩:=share a i l m;obtain⟨e,f⟩:=share a j l m;exact⟨b,c,e,f⟩
theorem eC4(s t:Sg):xD s t*(t.1.1-s.1.1)=xA s t*(s.2.1-s.1.1)-xB s t*(t.2.1-t.1.1)/\xD s t*(t.1.2-s.1.2)=xA s t*(s.2.2-s.1.2)-xB s t*(t.2.2-t.1.2):=by
 unfold xD xA xB X dif;grind
theorem vK(s t:Sg):X (dif s.2 s.1) (dif t.1 s.1)= -xB s t/\X (dif s.2 s.1) (dif t.2 s.1)=xD s t-xB s t/\X (dif t.2 t.1) (dif s.1 t.1)=xA s t/\X (dif t.2 t.1) (dif s.2 t.1)=xA s t-xD s t:=by
 unfold xD xA xB X dif;grind
def Com(s t:Sg)(p:Vc):Prop:=eX s p/\eX t p
def uH(s t:Sg)(p:Vc):Prop:=p=s.1\/p=s.2\/p=t.1\/p=t.2
theorem rH{s:Sg}(a:bI s):eX s s.1:=by
 rw[gZ a];refine⟨by unfold Bb;omega,?_⟩
 unfold X dif;simp
theorem cN1{s:Sg}(a:bI s):eX s s.2:=by
 rw[gZ a];refine⟨by unfold Bb;omega,?_⟩
 unfold X dif;simp only;rw[Int.mul_comm];omega
structure Cr(s t:Sg)(a b d:Int):Prop where
 pos:0<d
 e1:d*(t.1.1-s.1.1)=a*(s.2.1-s.1.1)-b*(t.2.1-t.1.1)
 e2:d*(t.1.2-s.1.2)=a*(s.2.2-s.1.2)-b*(t.2.2-t.1.2)
 kA:xA s t=0↔a=0
 kA':xA s t=xD s t↔a=d
 kB:xB s t=0↔b=0
 kB':xB s t=xD s t↔b=d
theorem eS6{s t:Sg}{a b d:Int}(o:bI s)(r:bI t)(n:xD s t≠0)(h:Cr s t a b d):
 (eX t s.1↔a=0/\0<=b/\b<=d)/\(eX t s.2↔a=d/\0<=b/\b<=d)/\(eX s t.1↔b=0/\0<=a/\a<=d)/\(eX s t.2↔b=d/\0<=a/\a<=d):=by
 obtain⟨y,z,A,B⟩:=vK s t
 have g:s.1≠s.2:=by
  intro e;apply n;unfold xD X dif;rw[e];simp
 have i:t.1≠t.2:=by
  intro e;apply n;unfold xD X dif;rw[e];simp
 obtain⟨c,C,D,w,m,x,k⟩:=h;rw[gZ r,gZ r,gZ o,gZ o,y,z,A,B];refine⟨?_,?_,?_,?_⟩
 ·constructor
  ·rintro⟨j,l⟩
   have f:=w.1 l;subst f;refine⟨rfl,(nO (u:=t.1) (v:=t.2) (p:=s.1) c ?_ ?_ i).1 j⟩
   ·grind
   ·grind
  ·rintro⟨f,q⟩
   subst f;refine⟨(nO (u:=t.1) (v:=t.2) (p:=s.1) c ?_ ?_ i).2 q,w.2 rfl⟩
   ·grind
   ·grind
 ·constructor
  ·rintro⟨j,l⟩
   have f:=m.1 Aa;subst f;refine⟨rfl,(nO (u:=t.1) (v:=t.2) (p:=s.2) c ?_ ?_ i).1 j⟩
   ·grind
   ·grind
  ·rintro⟨f,q⟩
   subst f;grind [nO]
 ·constructor
  ·rintro⟨j,l⟩
   have f:=x.1 Aa;subst f;refine⟨rfl,(nO (u:=s.1) (v:=s.2) (p:=t.1) c ?_ ?_ g).1 j⟩
   ·grind
   ·grind
  ·rintro⟨f,q⟩
   subst f;refine⟨(nO (u:=s.1) (v:=s.2) (p:=t.1) c ?_ ?_ g).2 q,by have:=x.2 rfl;omega⟩
   ·grind
   ·grind
 ·constructor
  ·rintro⟨j,l⟩
   have f:=k.1 Aa;subst f;refine⟨rfl,(nO (u:=s.1) (v:=s.2) (p:=t.2) c ?_ ?_ g).1 j⟩
   ·grind
   ·grind
  ·rintro⟨f,q⟩
   subst f;refine⟨(nO (u:=s.1) (v:=s.2) (p:=t.2) c ?_ ?_ g).2 q,by have:=k.2 rfl;omega⟩
   ·grind
   ·grind
theorem cr_of{s t:Sg}(c:xD s t≠0):Cr s t (if xD s t<0 then 0-xA s t else xA s t) (if xD s t<0 then 0-xB s t else xB s t) (if xD s t<0 then 0-xD s t else xD s t):=by
 obtain⟨a,b⟩:=eC4 s t;by_cases h:xD s t<0
 ·rw[QO h,QO h,QO h]
  exact⟨Aa,CV,CV,Aa,Aa,Aa,Aa⟩
 ·rw[Q5 h,Q5 h,Q5 h]
  exact⟨Aa,a,b,RN,RN,RN,RN⟩
theorem aL3{u v w:Vc}(d:X u w=0)(f:X v w=0)(b:w≠(0,0)):X u v=0:=by
 unfold X at*;by_cases h:w.1=0
 ·have c:w.2≠0:=λa=>b (Prod.ext h a)
  have e:w.2*(u.1*v.2-u.2*v.1)=0:=by
   grind
  grind [Int.mul_eq_zero]
 ·have e:w.1*(u.1*v.2-u.2*v.1)=0:=by grind
  rcases Int.mul_eq_zero.1 e with e|e
  ·exact absurd e h
  ·exact e
theorem eO4{s t:Sg}(c:bI s)(d:bI t)(k:xD s t≠0){p q:Vc}(a:Com s t p)(b:Com s t q):p=q:=by
 by_cases h:p=q
 ·exact h
 exfalso;apply k;have f:=((gZ c).1 a.1).2;have g:=((gZ c).1 b.1).2
 have i:=((gZ d).1 a.2).2;have j:=((gZ d).1 b.2).2
 refine aL3 (u:=dif s.2 s.1) (v:=dif t.2 t.1) (w:=dif p q) ?_ ?_ ?_
 ·have e:X (dif s.2 s.1) (dif p q)=X (dif s.2 s.1) (dif p s.1)-X (dif s.2 s.1) (dif q s.1):=by unfold X dif;simp only;grind
  rw[e,f,g];rfl
 ·have e:X (dif t.2 t.1) (dif p q)=X (dif t.2 t.1) (dif p t.1)-X (dif t.2 t.1) (dif q t.1):=by unfold X dif;simp only;grind
  rw[e,i,j];rfl
 ·intro e
  apply h;have l:p.1-q.1=0:=Ry Prod.fst e;have m:p.2-q.2=0:=Ry Prod.snd e
  exact Prod.ext Aa Aa
def zT9(s t:Sg):Prop:=kR s.1 s.2 t.1*kR s.1 s.2 t.2<0/\kR t.1 t.2 s.1*kR t.1 t.2 s.2<0
theorem cmp_neg{m n:Int}:cmpI m 0*cmpI n 0<0↔(m<0/\0<n)\/(0<m/\n<0):=by
 grind [cmpI]
theorem wY{s t:Sg}(a:bI s)(b:bI t):zT9 s t↔((-xB s t<0/\0<xD s t-xB s t)\/(0< -xB s t/\xD s t-xB s t<0))/\((xA s t<0/\0<xA s t-xD s t)\/(0<xA s t/\xA s t-xD s t<0)):=by
 grind [jP,vK,zH,cmp_neg,zT9]
structure bT6(s t:Sg)(k:Int):Prop where
 over:k=3↔∃p q,uH s t p/\uH s t q/\p≠q/\Com s t p/\Com s t q
 touch:(∃p,uH s t p/\Com s t p)↔k=1\/k=3
 cross:k=2↔(¬∃p,uH s t p/\Com s t p)/\zT9 s t
theorem eK8{s t:Sg}(f:bI s)(g:bI t)(k:xD s t≠0):bT6 s t (dG s t):=by
 have l:=cr_of (s:=s) (t:=t) k;obtain⟨n,o,q,r⟩:=eS6 f g k l;have j:=wY f g
 have u:dG s t=uJ (if xD s t<0 then 0-xA s t else xA s t) (if xD s t<0 then 0-xB s t else xB s t) (if xD s t<0 then 0-xD s t else xD s t):=by
  rw[dI7 f g k];split<;>rfl
 have m:=l.pos
 have e:zT9 s t↔(0< (if xD s t<0 then 0-xB s t else xB s t)/\(if xD s t<0 then 0-xB s t else xB s t)< (if xD s t<0 then 0-xD s t else xD s t))/\(0< (if xD s t<0 then 0-xA s t else xA s t)/\(if xD s t<0 then 0-xA s t else xA s t)< (if xD s t<0 then 0-xD s t else xD s t)):=by
  rw[j];omega
 generalize (if xD s t<0 then 0-xA s t else xA s t)=a at*
 generalize (if xD s t<0 then 0-xB s t else xB s t)=b at*
 generalize (if xD s t<0 then 0-xD s t else xD s t)=d at*
 have c:(∃p,uH s t p/\Com s t p)↔uJ a b d=1:=by
  constructor
  ·rintro⟨p,v,w,x⟩
   unfold uJ;rcases v with rfl|rfl|rfl|rfl
   ·grind
   ·grind
   ·grind
   ·grind
  ·intro h
   unfold uJ at h;split at h
   ·cases h
   ·split at h
    ·rename_i y i
     rcases i with i|i|i|i
     ·exact⟨s.1, .inl rfl,rH f,n.2 Aa⟩
     ·exact⟨s.2, .inr (.inl rfl),cN1 f,o.2 Aa⟩
     ·exact⟨t.1, .inr (.inr (.inl rfl)),q.2 Aa,rH g⟩
     ·exact⟨t.2, .inr (.inr (.inr rfl)),r.2 Aa,cN1 g⟩
    ·cases h
 have hv:uJ a b d=0\/uJ a b d=1\/uJ a b d=2:=by
  unfold uJ;split
  ·simp
  ·split<;>simp
 rw[u];refine⟨⟨λh=>Aa,?_⟩,?_,?_⟩
 ·grind [eO4]
 ·rw[c];omega
 ·rw[c,e]
  unfold uJ;omega
theorem cD2{u p:Vc}(h:Bb (u,u) p):p=u:=by
 grind [Bb]
theorem cW7{s t:Sg}(c:bI s)(e:bI t)(hd:xD s t=0)(b:s.1=s.2):bT6 s t (dG s t):=by
 have a:∀p,Com s t p↔p=s.1/\eX t s.1:=by
  intro p;constructor
  ·rintro⟨f,g⟩
   have d:p=s.1:=cD2 (u:=s.1) (by have:=((gZ c).1 f).1;unfold Bb at*;rw[<-b]at this;exact this)
   exact⟨d,d▸g⟩
  ·rintro⟨rfl,h⟩
   exact⟨rH c,h⟩
 have i:xB s t=0:=by unfold xB;rw[<-b];unfold X dif;simp
 have hcr:¬zT9 s t:=by rw[wY c e,i,hd];omega
 have j:dG s t=open Classical in if eX t s.1 then 1 else 0:=by
  obtain⟨e1,_,_⟩:=aM8 c e;unfold dG kQ;rw[Q5 (by rintro(h|h)<;>exact h Ag),Q5 Ia]
  by_cases h:eX t s.1
  ·rw[QO ⟨b,h⟩,QO h];rfl
  ·rw[Q5 (λq=>h q.2),Q5 h,Q5,QO (.inl b)]
   ·rfl
   ·grind [cD2,gZ,rH,Bb]
 rw[j];by_cases h:eX t s.1
 ·rw[QO h]
  refine⟨⟨λh=>Ah,?_⟩,⟨λ_=> .inl rfl,λ_=>⟨s.1, .inl rfl,(a _).2 ⟨rfl,h⟩⟩⟩,⟨λh=>Ah,λh=>absurd h.2 hcr⟩⟩;grind
 ·exact KR
theorem dA9{s t:Sg}(f:bI s)(c:bI t)(hd:xD s t=0)(d:s.1≠s.2)(b:t.1=t.2):bT6 s t (dG s t):=by
 have a:∀p,Com s t p↔p=t.1/\eX s t.1:=by
  intro p;constructor
  ·rintro⟨g,i⟩
   have e:p=t.1:=cD2 (u:=t.1) (by have:=((gZ c).1 i).1;unfold Bb at*;rw[<-b]at this;exact this)
   exact⟨e,e▸g⟩
  ·rintro⟨rfl,h⟩
   exact⟨h,rH c⟩
 have j:xA s t=0:=by unfold xA;rw[<-b];unfold X dif;simp
 have hcr:¬zT9 s t:=by rw[wY f c,j,hd];omega
 have k:dG s t=open Classical in if eX s t.1 then 1 else 0:=by
  obtain⟨e1,_,_⟩:=aM8 f c;unfold dG kQ;rw[Q5 (by rintro(h|h)<;>exact h Ag),Q5 Ia,Q5 (λq=>d q.1)]
  by_cases h:eX s t.1
  ·rw[QO ⟨b,h⟩,QO h];rfl
  ·rw[Q5 (λq=>h q.2),Q5 h,QO (.inr (.inl b))]
   rfl
 rw[k];by_cases h:eX s t.1
 ·rw[QO h]
  refine⟨⟨λh=>Ah,?_⟩,⟨λ_=> .inl rfl,λ_=>⟨t.1, .inr (.inr (.inl rfl)),(a _).2 ⟨rfl,h⟩⟩⟩,⟨λh=>Ah,λh=>absurd h.2 hcr⟩⟩;grind
 ·exact KR
theorem bZ7{a b:Vc}(h:a≠b):dif b a≠(0,0):=by
 intro e;have c:b.1-a.1=0:=Ry Prod.fst e;have d:b.2-a.2=0:=Ry Prod.snd e
 exact h (Prod.ext Aa Aa)
theorem dR9{s t:Sg}(e:bI s)(f:bI t)(hd:xD s t=0)(g:s.1≠s.2)(k:t.1≠t.2)(o:xB s t≠0):bT6 s t (dG s t):=by
 obtain⟨a,b⟩:=jP.1 e;obtain⟨c,d⟩:=jP.1 f;obtain⟨l,y,z,A⟩:=vK s t
 have j:∀p,¬Com s t p:=by
  rintro p ⟨u,v⟩;have m:=((gZ e).1 u).2;have x:=((gZ f).1 v).2
  have e1:X (dif s.2 s.1) (dif p t.1)=0:=aL3 (w:=dif t.2 t.1) hd (by unfold X at*;rw[Int.mul_comm,Int.mul_comm (dif p t.1).2];omega) (bZ7 k)
  apply o;have n:X (dif s.2 s.1) (dif t.1 s.1)=X (dif s.2 s.1) (dif p s.1)-X (dif s.2 s.1) (dif p t.1):=CO;rw[l,m,e1]at n;omega
 have i:¬zT9 s t:=by rw[wY e f,hd];omega
 have r:dG s t=0:=by
  obtain⟨e1,_,_⟩:=aM8 e f;unfold dG kQ;rw[Q5 (by rintro(h|h)<;>exact h Ag),Q5 Ia,Q5 (λq=>g q.1),Q5 (λq=>k q.1),QO (.inr (.inr (by rw[zH a b c,l,tC];omega)))]
  rfl
 rw[r];refine⟨⟨λh=>Ah,?_⟩,⟨?_,λh=>Gg⟩,⟨λh=>Ah,λh=>absurd h.2 i⟩⟩
 ·simp_all
 ·rintro⟨p,_,g⟩
  exact absurd g (j p)
def co(w p:Vc):Int:=if w.2≠0 then p.2 else p.1
def onL(w o p:Vc):Prop:=X w (dif p o)=0
theorem xR{w o p q:Vc}(a:onL w o p)(b:onL w o q):w.1*(p.2-q.2)=w.2*(p.1-q.1):=by
 unfold onL X dif at*;simp only at*;grind
theorem bX1{w o p q:Vc}(hw:w≠(0,0))(a:onL w o p)(b:onL w o q)(h:co w p=co w q):p=q:=by
 have e:=xR a b;unfold co at h;by_cases h2:w.2=0
 ·rw[Q5 Hr,Q5 Hr]at h
  exact PO
 ·rw[QO h2,QO h2]at h
  rw[show p.2-q.2=0 from Aa,Int.mul_zero]at e;grind [Int.mul_eq_zero]
theorem aZ9{w o p q:Vc}(hw:w≠(0,0))(a:onL w o p)(b:onL w o q):kF p q↔co w p<co w q:=by
 rw[aG2];have e:=xR a b;unfold co;by_cases h2:w.2=0
 ·rw[Q5 Hr,Q5 Hr]
  exact PO
 ·rw[QO h2,QO h2]
  constructor
  ·rintro(h|⟨h,h'⟩)
   ·exact h
   ·rw[show p.2-q.2=0 from Aa,Int.mul_zero]at e
    rcases Int.mul_eq_zero.1 e.symm with e|e
    ·exact absurd e h2
    ·omega
  ·exact λh=> .inl h
theorem dE8{w o p q r:Vc}(i:w≠(0,0))(a:onL w o p)(m:onL w o q)(n:onL w o r):Bb (p,q) r↔min (co w p) (co w q)<=co w r/\co w r<=max (co w p) (co w q):=by
 have y:=xR n a;have z:=xR m a
 unfold Bb;simp only;by_cases h2:w.2=0
 ·have D:w.1≠0:=λA=>i (Prod.ext A h2)
  unfold co;rw[Q5 Hr,Q5 Hr,Q5 Hr];rw[h2,Int.zero_mul]at y z;grind [Int.mul_eq_zero]
 ·unfold co
  rw[QO h2,QO h2,QO h2];constructor
  ·rintro⟨_,_,b,c⟩;exact⟨b,c⟩
  ·rintro⟨b,c⟩
   have s:(q.2-p.2)*(r.1-p.1)=(r.2-p.2)*(q.1-p.1):=by
    have:w.2*((q.2-p.2)*(r.1-p.1)- (r.2-p.2)*(q.1-p.1))=0:=CV;grind [Int.mul_eq_zero]
   rcases Int.lt_trichotomy p.2 q.2 with C|e|B
   ·obtain⟨j,l⟩:=share (d:=q.2-p.2) (k:=r.2-p.2) (u:=p.1) (v:=q.1) (p:=r.1) Aa s Aa Aa;simp_all
   ·have f:p=q:=bX1 i a m (by unfold co;rw[QO h2,QO h2];exact e)
    have g:r=p:=bX1 i n a (by unfold co;rw[QO h2,QO h2];omega)
    subst g;subst f;omega
   ·obtain⟨j,l⟩:=share (d:=p.2-q.2) (k:=p.2-r.2) (u:=p.1) (v:=q.1) (p:=r.1) Aa (by
     have t:(p.2-q.2)*(r.1-p.1)= -((q.2-p.2)*(r.1-p.1)):=by rw[<-Int.neg_mul];congr 1;omega
     have x:(p.2-r.2)*(q.1-p.1)= -((r.2-p.2)*(q.1-p.1)):=by rw[<-Int.neg_mul];congr 1;omega
     rw[t,x,s]) Aa Aa
    exact⟨j,l,b,c⟩
theorem bS9{a b:Vc}:vcmp a b=0↔a=b:=by
 grind [vcmp,orI,cmpI]
theorem dD9{a b:Vc}:vcmp a b= -1↔kF a b:=by
 grind [gC8,kF]
theorem cE8{A B C D lo hi:Int}(a:lo=max (min A B) (min C D))(b:hi=min (max A B) (max C D))(x:Int):((min A B<=x/\x<=max A B)/\(min C D<=x/\x<=max C D))↔lo<=x/\x<=hi:=by
 omega
theorem eN9{A B C D lo:Int}(a:lo=max (min A B) (min C D)):lo=A\/lo=B\/lo=C\/lo=D:=Aa
theorem eL9{A B C D hi:Int}(a:hi=min (max A B) (max C D)):hi=A\/hi=B\/hi=C\/hi=D:=Aa
theorem eA6{s t:Sg}(hs:bI s)(ht:bI t)(hd:xD s t=0)(x:s.1≠s.2)(M:t.1≠t.2)(r:xB s t=0):bT6 s t (dG s t):=by
 obtain⟨a,b⟩:=jP.1 hs;obtain⟨c,d⟩:=jP.1 ht;obtain⟨V,x2,x3,x4⟩:=vK s t;have hw:=bZ7 x;have la:onL (dif s.2 s.1) s.1 s.1:=by unfold onL X dif;simp
 have lb:onL (dif s.2 s.1) s.1 s.2:=ES;have lc:onL (dif s.2 s.1) s.1 t.1:=by unfold onL;rw[V,r];rfl
 have ld:onL (dif s.2 s.1) s.1 t.2:=by unfold onL;rw[x2,r,hd];rfl
 have i:∀p,uH s t p->onL (dif s.2 s.1) s.1 p:=by
  rintro p (rfl|rfl|rfl|rfl)<;>assumption
 have lt':∀p,onL (dif s.2 s.1) s.1 p->X (dif t.2 t.1) (dif p t.1)=0:=λp hp=>JU
 have N:∀p,onL (dif s.2 s.1) s.1 p->(Com s t p↔(min (co (dif s.2 s.1) s.1) (co (dif s.2 s.1) s.2)<=co (dif s.2 s.1) p/\co (dif s.2 s.1) p<=max (co (dif s.2 s.1) s.1) (co (dif s.2 s.1) s.2))/\
  (min (co (dif s.2 s.1) t.1) (co (dif s.2 s.1) t.2)<=co (dif s.2 s.1) p/\co (dif s.2 s.1) p<=max (co (dif s.2 s.1) t.1) (co (dif s.2 s.1) t.2))):=λp hp=>by
  exact Oz
 have y:¬zT9 s t:=by rw[wY hs ht,r,hd];omega
 have g:∀(q:Sg),onL (dif s.2 s.1) s.1 q.1->onL (dif s.2 s.1) s.1 q.2->onL (dif s.2 s.1) s.1 (ordS q).1/\onL (dif s.2 s.1) s.1 (ordS q).2/\co (dif s.2 s.1) (ordS q).1=min (co (dif s.2 s.1) q.1) (co (dif s.2 s.1) q.2)/\co (dif s.2 s.1) (ordS q).2=max (co (dif s.2 s.1) q.1) (co (dif s.2 s.1) q.2):=λq o Z=>by
  have k:=aZ9 hw Z o;grind [cZ7,cY4]
 obtain⟨s1,s2,R,S⟩:=g s la lb;obtain⟨t1,t2,T,U⟩:=g t lc ld
 have F:onL (dif s.2 s.1) s.1 (hiLo (ordS s) (ordS t)).1/\onL (dif s.2 s.1) s.1 (hiLo (ordS s) (ordS t)).2/\co (dif s.2 s.1) (hiLo (ordS s) (ordS t)).1=max (co (dif s.2 s.1) (ordS s).1) (co (dif s.2 s.1) (ordS t).1)/\co (dif s.2 s.1) (hiLo (ordS s) (ordS t)).2=min (co (dif s.2 s.1) (ordS s).2) (co (dif s.2 s.1) (ordS t).2):=by
  have k1:=aZ9 hw s1 t1;have k2:=aZ9 hw t2 s2
  unfold hiLo;simp only;refine⟨?_,?_,?_,?_⟩
  ·split<;>assumption
  ·split<;>assumption
  ·split
   ·rename_i h;have:=k1.1 h;omega
   ·rename_i h
    have:¬co (dif s.2 s.1) (ordS s).1<co (dif s.2 s.1) (ordS t).1:=λq=>h (k1.2 q);omega
  ·split<;>grind
 have O:dG s t=(yD (hiLo (ordS s) (ordS t))).kind:=by
  obtain⟨e1,_,_⟩:=aM8 hs ht;unfold dG kQ;rw[Q5 (by rintro(h|h)<;>exact h Ag),Q5 Ia,Q5 (λq=>x q.1),Q5 (λq=>M q.1),Q5]
  rintro(h|h|h)
  ·exact x h
  ·exact M h
  ·exact h (by rw[zH a b c,V,r];rfl)
 obtain⟨P,Q,u,v⟩:=F;rw[R,T]at u;rw[S,U]at v
 have E:(co (dif s.2 s.1) (hiLo (ordS s) (ordS t)).1=co (dif s.2 s.1) (hiLo (ordS s) (ordS t)).2/\dG s t=1)\/(co (dif s.2 s.1) (hiLo (ordS s) (ordS t)).1<co (dif s.2 s.1) (hiLo (ordS s) (ordS t)).2/\dG s t=3)\/(co (dif s.2 s.1) (hiLo (ordS s) (ordS t)).2<co (dif s.2 s.1) (hiLo (ordS s) (ordS t)).1/\dG s t=0):=by
  rw[O];generalize hiLo (ordS s) (ordS t)=q at*;have k:=aZ9 hw P Q;unfold yD;by_cases n:vcmp q.1 q.2=0
  ·rw[QO n]
   left;exact⟨by rw[bS9.1 n],rfl⟩
  ·rw[Q5 n]
   have aa:co (dif s.2 s.1) q.1≠co (dif s.2 s.1) q.2:=λh=>n (bS9.2 (bX1 hw P Q h));by_cases o:vcmp q.1 q.2= -1
   ·simp_all [QO,dD9]
   ·rw[Q5 o]
    right;right;have:¬co (dif s.2 s.1) q.1<co (dif s.2 s.1) q.2:=λh=>o (dD9.2 (k.2 h));exact⟨Aa,rfl⟩
 have f:=cE8 (A:=co (dif s.2 s.1) s.1) (B:=co (dif s.2 s.1) s.2) (C:=co (dif s.2 s.1) t.1) (D:=co (dif s.2 s.1) t.2) u v;have G:=eN9 (A:=co (dif s.2 s.1) s.1) (B:=co (dif s.2 s.1) s.2) (C:=co (dif s.2 s.1) t.1) (D:=co (dif s.2 s.1) t.2) u
 have H:=eL9 (A:=co (dif s.2 s.1) s.1) (B:=co (dif s.2 s.1) s.2) (C:=co (dif s.2 s.1) t.1) (D:=co (dif s.2 s.1) t.2) v;have m:∀p,onL (dif s.2 s.1) s.1 p->(Com s t p↔co (dif s.2 s.1) (hiLo (ordS s) (ordS t)).1<=co (dif s.2 s.1) p/\co (dif s.2 s.1) p<=co (dif s.2 s.1) (hiLo (ordS s) (ordS t)).2):=λp hp=>(N p hp).trans (f _)
 clear N f u v R S T U g O lt';generalize co (dif s.2 s.1) (hiLo (ordS s) (ordS t)).1=lo at*;generalize co (dif s.2 s.1) (hiLo (ordS s) (ordS t)).2=hi at*
 have j:∀z:Int,(z=co (dif s.2 s.1) s.1\/z=co (dif s.2 s.1) s.2\/z=co (dif s.2 s.1) t.1\/z=co (dif s.2 s.1) t.2)->∃p,uH s t p/\co (dif s.2 s.1) p=z:=by
  rintro z (h|h|h|h)
  ·exact⟨_, .inl rfl,h.symm⟩
  ·exact⟨_, .inr (.inl rfl),h.symm⟩
  ·exact⟨_, .inr (.inr (.inl rfl)),h.symm⟩
  ·exact⟨_, .inr (.inr (.inr rfl)),h.symm⟩
 obtain⟨pl,K,L⟩:=j _ G;obtain⟨ph,I,J⟩:=j _ H;have Y:=m _ (i _ K);have W:=m _ (i _ I)
 rw[L]at Y;rw[J]at W
 have l:(∃p,uH s t p/\Com s t p)↔dG s t=1\/dG s t=3:=by
  grind
 refine⟨⟨λh=>?_,?_⟩,l,⟨λh=>Aa,λh=>absurd h.2 y⟩⟩
 ·grind
 ·grind [bX1]
theorem tells{s t:Sg}(a:bI s)(b:bI t):bT6 s t (dG s t):=by
 grind [cW7,dA9,eA6,dR9,eK8]
theorem bJ0{p v:Vc}(a:Sm4 p)(b:Sm4 v):toP (p.1,p.2,1) v=dif p v:=by
 unfold Sm4 at*;unfold toP dif;simp only[Int.mul_one];grind [w_in]
theorem dF8{p:Vc}{e:Sg}(c:Sm4 p)(d:bI e):bV4 (p.1,p.2,1) e=X (dif e.2 e.1) (dif p e.1):=by
 obtain⟨a,b⟩:=jP.1 d;unfold bV4;rw[bJ0 c a];unfold Sm4 at*;rw[kN ⟨Aa,Aa⟩ ⟨Aa,Aa⟩];unfold dif;rw[iK ⟨Ar,Ar⟩ ⟨Ar,Ar⟩ ⟨Ar,Ar⟩ ⟨Ar,Ar⟩];rfl
theorem cC3{p:Vc}{e:Sg}(a:Sm4 p)(b:bI e):onE (p.1,p.2,1) e↔eX e p:=by
 grind [jP,gZ,dF8,bJ0,onE,Bb,dif]
def rayC(e:Sg)(p:Vc)(z:Int):Prop:=(e.1.2<=p.2/\p.2<e.2.2/\0<z)\/(e.2.2<=p.2/\p.2<e.1.2/\z<0)
theorem dD7{p:Vc}{e:Sg}(f:Sm4 p)(g:bI e)(i:¬eX e p):rW (p.1,p.2,1) e↔rayC e p (X (dif e.2 e.1) (dif p e.1)):=by
 obtain⟨a,b⟩:=jP.1 g;rw[gZ g]at i;unfold rW;rw[dF8 f g,bJ0 f a,bJ0 f b]
 have q:e.2.2<=p.2->p.2<e.1.2->X (dif e.2 e.1) (dif p e.1)≠0:=by
  intro n o c;apply i;refine⟨?_,c⟩;unfold X dif at c;simp only at c;obtain⟨r,s⟩:=share (d:=e.1.2-e.2.2) (k:=e.1.2-p.2) (u:=e.1.1) (v:=e.2.1) (p:=p.1) Aa CV Aa Aa;unfold Bb;omega
 generalize X (dif e.2 e.1) (dif p e.1)=z at*;unfold rayC dif;simp only;constructor
 ·omega
 ·rintro(⟨j,l,m⟩|⟨j,l,m⟩)
  ·omega
  ·exact⟨λh=>by have:=h.2 Aa;omega,λh=>Aa,λh=>Aa⟩
theorem pY{v:Vc}:within v 4000↔Sm4 v:=by
 rw[within_iff Aa];exact RN
theorem bC7{p:Vc}(h:Sm4 p):wJ (p.1,p.2,1):=by
 unfold Sm4 at h;refine⟨⟨(by decide:(1:Int)<=1),(by decide:(1:Int)<=134217728),?_⟩,gcd_one _⟩
 show within (p.1,p.2) (W (4000*1));rw[show W (4000*1)=4000 from Ai];exact pY.2 h
theorem aE1{r:Rg}{i:Nat}(h:i<r.length):r.getD i z0∈r:=LX
theorem bA6{r:Rg}{i:Nat}(h:i<r.length):iU r i∈r:=aE1 (SA _ Aa)
theorem jO{r:Rg}(c:bR7 r){e:Sg}(b:e∈bF r):bI e:=by
 unfold bF at b;split at b
 ·cases b
 ·obtain⟨i,hi,rfl⟩:=Ru.1 b
  have a:=SH.1 hi;have d:=c _ (aE1 a)
  have f:=c _ (bA6 a);rw[within_iff Aa]at d f;refine jP.2 ⟨?_,?_⟩
  ·show Sm4 (r.getD i z0);unfold Sm4;omega
  ·show Sm4 (iU r i);unfold Sm4;omega
theorem bC8{r:Rg}(b:3<=r.length){v:Vc}(hv:v∈r):∃e∈bF r,e.1=v:=by
 obtain⟨i,hi,a⟩:=List.mem_iff_getElem.1 hv;refine⟨aJ4 r i,?_,?_⟩
 ·unfold bF
  rw[Q5 Aa];exact RJ (SH.2 hi)
 ·show r.getD i z0=v
  rw[Sj,QS hi,a];rfl
theorem yZ{p:Pt}:∀ {l:List Sg} {b:Bool},lU p l b=1↔∃e∈l,onE p e
 | [],b=>by rw[qB];cases b<;>simp
 |e::l,b=>by
  by_cases h:onE p e
  ·rw[oP h]
   exact⟨λ_=>⟨e,Af,h⟩,λ_=>rfl⟩
  ·by_cases a:rW p e
   ·simp_all [rE,yZ,Rh]
   ·simp_all [jD,yZ,Rh]
theorem sgn(x y:Int):(0<x->0<y->0<x*y)/\(0<x->y<0->x*y<0)/\(x<0->0<y->x*y<0)/\(x<0->y<0->0<x*y)/\(x=0->x*y=0)/\(y=0->x*y=0):=
 ⟨Int.mul_pos,Int.mul_neg_of_pos_of_neg,Int.mul_neg_of_neg_of_pos,Int.mul_pos_of_neg_of_neg,λh=>by rw[h,Int.zero_mul],λh=>by rw[h,Int.mul_zero]⟩
def ray(e:Sg)(p:Vc):Prop:=rayC e p (X (dif e.2 e.1) (dif p e.1))
def inRt(p q z:Vc):Prop:=p.2<z.2/\z.2<=q.2/\X (dif q p) (dif z p)<0
def Sep(p q:Vc)(e:Sg):Prop:=
 (0<X (dif q p) (dif e.1 p)/\0<X (dif q p) (dif e.2 p))\/(X (dif q p) (dif e.1 p)<0/\X (dif q p) (dif e.2 p)<0)\/
 (0<X (dif e.2 e.1) (dif p e.1)/\0<X (dif e.2 e.1) (dif q e.1))\/(X (dif e.2 e.1) (dif p e.1)<0/\X (dif e.2 e.1) (dif q e.1)<0)\/
 (X (dif q p) (dif e.1 p)=0/\X (dif q p) (dif e.2 p)=0/\X (dif e.2 e.1) (dif p e.1)=0/\X (dif e.2 e.1) (dif q e.1)=0)
theorem fK2{w G:Int}(a:0<w):(0<G↔0<w*G)/\(G<0↔w*G<0):=by
 have s:=sgn w G;generalize w*G=m at*;omega
theorem eB3{w a b Sc Sd c d:Int}(j:0<w)(e:w*c=a*Sd-b*Sc)(f:w*d=(a-w)*Sd- (b-w)*Sc)
 (m:(0<Sc/\0<Sd)\/(Sc<0/\Sd<0)\/(0<c/\0<d)\/(c<0/\d<0)\/(Sc=0/\Sd=0/\c=0/\d=0)):
 ((((a<=0/\0<b/\0<c)\/(b<=0/\0<a/\c<0))↔((a<=w/\w<b/\0<d)\/(b<=w/\w<a/\d<0)))↔((0<a/\a<=w/\Sc<0)↔(0<b/\b<=w/\Sd<0))):=by
 have k:=fK2 (G:=c) j;have l:=fK2 (G:=d) j
 rw[e]at k;rw[f]at l;clear e f;have hz:a-w<0\/a-w=0\/0<a-w:=Aa;have hy:b-w<0\/b-w=0\/0<b-w:=Aa
 rcases m with⟨hSc,hSd⟩|⟨hSc,hSd⟩|⟨g,i⟩|⟨g,i⟩|⟨g,i,n,o⟩
 ·exact IJ
 ·exact IJ
 ·exact II
 ·exact II
 ·omega
theorem ids(p q c d:Vc):(q.2-p.2)*X (dif d c) (dif p c)=(c.2-p.2)*X (dif q p) (dif d p)- (d.2-p.2)*X (dif q p) (dif c p)/\
 (q.2-p.2)*X (dif d c) (dif q c)=(c.2-p.2- (q.2-p.2))*X (dif q p) (dif d p)- (d.2-p.2- (q.2-p.2))*X (dif q p) (dif c p):=by
 unfold X dif;simp only;constructor<;>grind
theorem eT3{p q:Vc}{e:Sg}(g:p.2<=q.2)(h:Sep p q e):(ray e p↔ray e q)↔(inRt p q e.1↔inRt p q e.2):=by
 obtain⟨c,d⟩:=e;obtain⟨j,l⟩:=ids p q c d;unfold Sep at h;unfold ray rayC inRt;simp only at*;by_cases i:p.2=q.2
 ·have f:∀z:Vc,X (dif q p) (dif z p)=(q.1-p.1)*(z.2-p.2):=λz=>by unfold X dif;simp only;rw[i];simp
  rw[f,f]at h;have n:=sgn (q.1-p.1) (c.2-p.2);have o:=sgn (q.1-p.1) (d.2-p.2)
  grind
 ·have k:=eB3 (w:=q.2-p.2) (a:=c.2-p.2) (b:=d.2-p.2) Aa j l h
  generalize X (dif d c) (dif p c)=m at*;grind
theorem dW0{p q:Vc}{e:Sg}(h:Sep p q e):Sep q p e:=by
 have a:∀z:Vc,X (dif p q) (dif z q)= -X (dif q p) (dif z p):=λz=>CO;unfold Sep at*;rw[a,a];omega
structure Onp(N k:Int)(c d z:Vc):Prop where
 pos:0<N
 lo:0<=k
 hi:k<=N
 e1:N*(z.1-c.1)=k*(d.1-c.1)
 e2:N*(z.2-c.2)=k*(d.2-c.2)
theorem eN3{N:Int}{c d z:Vc}(h:Onp N N c d z):z=d:=by
 have a:=Int.eq_of_mul_eq_mul_left (by have:=h.pos;omega) h.e1
 have b:=Int.eq_of_mul_eq_mul_left (by have:=h.pos;omega) h.e2
 exact Prod.ext Aa Aa
theorem dI1{N m x y:Int}(b:0<N)(c:0<m)(h:N*x=m*y):(0<y->0<x)/\(y<0->x<0)/\(y=0->x=0):=by
 have d:=sgn N x;have a:=sgn m y
 rw[<-h]at a;generalize N*x=t at*;omega
theorem eT5{N m k x y z:Int}(a:0<N)(c:0<m)(b:0<=k)(h:N*x=m*y+k*z):(0<y->0<z->0<x)/\(y<0->z<0->x<0)/\(y=0->z=0->x=0):=by
 have d:=sgn N x;have e:=sgn m y
 have f:=sgn k z;grind
theorem eL1{N k:Int}{c d z:Vc}{e:Sg}(i:Onp N k c d z)(q:k<N)(h:Sep c d e):Sep z d e:=by
 obtain⟨a,f,_,j,l⟩:=i
 have b:∀u:Vc,N*X (dif d z) (dif u z)=(N-k)*X (dif d c) (dif u c):=λu=>by
  unfold X dif;simp only;grind
 have g:N*X (dif e.2 e.1) (dif z e.1)=(N-k)*X (dif e.2 e.1) (dif c e.1)+k*X (dif e.2 e.1) (dif d e.1):=by
  unfold X dif;simp only;grind
 have m:=dI1 a Aa (b e.1);have n:=dI1 a Aa (b e.2)
 have o:=eT5 a Aa f g;clear b g j l;unfold Sep at*;omega
theorem rC{s t:Sg}(g:bI s)(i:bI t)(a:s.1≠s.2)(h:dG s t=0):Sep s.1 s.2 t:=by
 obtain⟨b,c,d,e⟩:=vK s t;unfold Sep;rw[b,c,d,e];by_cases f:xD s t=0
 ·omega
 ·grind [dI7,uJ]
section
variable{α β:Type}
def xr(l:List α)(f:α->Bool):Bool:=l.foldr (λx b=>f x^^b) false
theorem fD4(f:α->Bool):xr [] f=false:=rfl
theorem nS(x:α)(l:List α)(f:α->Bool):xr (x::l) f=(f x^^xr l f):=rfl
theorem cY7(f:α->Bool):∀l m:List α,xr (l++m) f=(xr l f^^xr m f)
 | [],m=>by rw[Uc,fD4];cases xr m f<;>rfl
 |x::l,m=>by
  rw[Ui,nS,nS,cY7 f l m];cases f x<;>cases xr l f<;>cases xr m f<;>rfl
theorem jF{f g:α->Bool}:∀ {l:List α},(∀x∈l,f x=g x)->xr l f=xr l g
 | [],_=>rfl
 |x::l,h=>by rw[nS,nS,h x (by simp),jF (λy a=>h y (by simp[a]))]
theorem aD0:∀l:List α,xr l (λ_=>false)=false
 | [] =>rfl
 |x::l=>by rw[nS,aD0 l];rfl
theorem cA9(f g:α->Bool):∀l:List α,xr l (λx=>f x^^g x)=(xr l f^^xr l g)
 | [] =>rfl
 |x::l=>by
  rw[nS,nS,nS,cA9 f g l];cases f x<;>cases g x<;>cases xr l f<;>cases xr l g<;>rfl
theorem bW6(c:Bool)(f:α->Bool)(l:List α):xr l (λx=>c&&f x)=(c&&xr l f):=by
 cases c
 ·exact aD0 l
 ·exact jF (λx _=>Bool.true_and _)
theorem dI9(f:α->β->Bool)(m:List β):∀l:List α,xr l (λx=>xr m (f x))=xr m (λy=>xr l (λx=>f x y))
 | [] =>(aD0 m).symm
 |x::l=>by
  rw[nS,dI9 f m l,<-cA9];grind [jF,nS]
theorem cW9(g:β->α)(f:α->Bool):∀l:List β,xr (l.map g) f=xr l (λx=>f (g x))
 | [] =>rfl
 |x::l=>by rw[Rq,nS,nS,cW9 g f l]
end
def par(p:Vc)(l:List Sg):Bool:=xr l (λe=>decB (ray e p))
theorem dZ6{p q:Prop}(h:p↔q):decB p=decB q:=fQ h
theorem fA6{p q:Vc}{e:Sg}(a:p.2<=q.2)(h:Sep p q e):(decB (ray e p)^^decB (ray e q))=(decB (inRt p q e.1)^^decB (inRt p q e.2)):=by
 have k:=eT3 a h;grind
def dD(v:Nat->Vc)(n:Nat):List Sg:=(List.range n).map λi=>(v (i% n),v ((i+1)% n))
theorem dL9:∀a b c d x y z:Bool,(a^^b)=(x^^y)->(c^^d)=(y^^z)->((a^^c)^^(b^^d))=(x^^z):=Ai
theorem cF0{p q:Vc}(a:p.2<=q.2)(u:Nat->Vc):∀k,(∀i,i<k->Sep p q (u i,u (i+1)))->
 (par p ((List.range k).map λi=>(u i,u (i+1)))^^par q ((List.range k).map λi=>(u i,u (i+1))))=(decB (inRt p q (u 0))^^decB (inRt p q (u k)))
 |0,_=>by
  show(false^^false)=_;cases decB (inRt p q (u 0))<;>rfl
 |k+1,h=>by
  have c:=cF0 a u k (λi hi=>h i Aa);have b:=fA6 a (h k Aa)
  rw[List.range_succ,RF];unfold par at*;rw[cY7,cY7];refine dL9 _ _ _ _ _ _ _ c ?_;rw[<-b];show(((decB (ray (u k,u (k+1)) p))^^false)^^((decB (ray (u k,u (k+1)) q))^^false))=_;rw[Bool.xor_false,Bool.xor_false]
theorem eN7:∀a b c:Bool,(a^^b)=(c^^c)->a=b:=Ai
theorem eE9{p q:Vc}(a:p.2<=q.2)(v:Nat->Vc)(n:Nat)(h:∀e∈dD v n,Sep p q e):par p (dD v n)=par q (dD v n):=by
 have k:=cF0 a (λi=>v (i% n)) n (λi hi=>h _ (Ru.2 ⟨i,SH.2 hi,rfl⟩));have e:v (n% n)=v (0% n):=by rw[Nat.mod_self,Nat.zero_mod]
 simp only[e]at k;exact eN7 _ _ _ k
theorem dT7{p q:Vc}(v:Nat->Vc)(n:Nat)(h:∀e∈dD v n,Sep p q e):par p (dD v n)=par q (dD v n):=by
 grind [Int.le_total,eE9,dW0]
def mulV(N:Int)(v:Vc):Vc:=(N*v.1,N*v.2)
def mulS(N:Int)(e:Sg):Sg:=(mulV N e.1,mulV N e.2)
theorem bQ3(N:Int)(v:Nat->Vc)(n:Nat):dD (λi=>mulV N (v i)) n=(dD v n).map (mulS N):=by
 unfold dD;rw[Ur];rfl
theorem cG9(N:Int)(a b c d:Vc):X (dif (mulV N a) (mulV N b)) (dif (mulV N c) (mulV N d))=N*N*X (dif a b) (dif c d):=by
 unfold X dif mulV;simp only;grind
theorem sq_pos{N:Int}(a:0<N):0<N*N:=Int.mul_pos a a
theorem aM0{N x y:Int}(a:0<N)(h:y=N*x):(0<y↔0<x)/\(y<0↔x<0)/\(y=0↔x=0):=by
 have s:=sgn N x;rw[<-h]at s;omega
theorem le_mul{N a b:Int}(c:0<N):(N*a<=N*b↔a<=b)/\(N*a<N*b↔a<b):=
 ⟨⟨λh=>Int.le_of_mul_le_mul_left h c,λh=>Int.mul_le_mul_of_nonneg_left h Aa⟩,⟨λh=>Int.lt_of_mul_lt_mul_left h Aa,λh=>Int.mul_lt_mul_of_pos_left h c⟩⟩
theorem eL6{N:Int}(a:0<N)(e:Sg)(p:Vc):ray (mulS N e) (mulV N p)↔ray e p:=by
 unfold ray rayC;have k:=aM0 (sq_pos a) (cG9 N e.2 e.1 p e.1);show(N*e.1.2<=N*p.2/\N*p.2<N*e.2.2/\0<X (dif (mulV N e.2) (mulV N e.1)) (dif (mulV N p) (mulV N e.1)))\/(N*e.2.2<=N*p.2/\N*p.2<N*e.1.2/\X (dif (mulV N e.2) (mulV N e.1)) (dif (mulV N p) (mulV N e.1))<0)↔_;simp_all
theorem dD0{N:Int}(a:0<N)(p:Vc)(l:List Sg):par (mulV N p) (l.map (mulS N))=par p l:=by
 grind [cW9,jF,dZ6,eL6,par]
theorem eQ5{N:Int}(a:0<N){p q:Vc}{e:Sg}(h:Sep p q e):Sep (mulV N p) (mulV N q) (mulS N e):=by
 have b:=aM0 (sq_pos a) (cG9 N q p e.1 p);have c:=aM0 (sq_pos a) (cG9 N q p e.2 p)
 have d:=aM0 (sq_pos a) (cG9 N e.2 e.1 p e.1);have f:=aM0 (sq_pos a) (cG9 N e.2 e.1 q e.1)
 grind [Sep,mulS]
theorem cE3{N M k:Int}(a:0<M){c d z:Vc}(v:Nat->Vc)(n:Nat)(f:Onp N k (mulV M c) (mulV M d) z)(h:∀e∈dD v n,Sep c d e):
 par z ((dD v n).map (mulS M))=par d (dD v n):=by
 by_cases j:k=N
 ·subst j
  rw[eN3 f,dD0 a]
 ·rw[<-dD0 a d,<-bQ3]
  refine dT7 _ n (λe g=>?_);rw[bQ3]at g;obtain⟨i,b,rfl⟩:=Ru.1 g;exact eL1 f (by have:=f.hi;omega) (eQ5 a (h i b))
theorem aN8(v:Vc):mulV 1 v=v:=by unfold mulV;rw[Int.one_mul,Int.one_mul]
theorem eD5(e:Sg):mulS 1 e=e:=by unfold mulS;rw[aN8,aN8]
theorem eY9{N k:Int}{c d z:Vc}(v:Nat->Vc)(n:Nat)(a:Onp N k c d z)(h:∀e∈dD v n,Sep c d e):
 par z (dD v n)=par d (dD v n):=by
 have e:(dD v n).map (mulS 1)=dD v n:=by
  grind [List.map_id,Tc,eD5,dD]
 have:=cE3 (M:=1) Ai v n (by rw[aN8,aN8];exact a) h
 rw[e]at this;exact this
theorem dH1{p:Vc}{l:List Sg}(h:∀e∈l,e.1.2<=p.2/\e.2.2<=p.2):par p l=false:=by
 grind [aD0,jF,dW,par,ray,rayC]
def mZ(e:Sg)(h:Int):Prop:=(e.1.2<=h/\h<e.2.2)\/(e.2.2<=h/\h<e.1.2)
def pN(e:Sg):Int:=if e.1.2<e.2.2 then e.2.2-e.1.2 else e.1.2-e.2.2
def pK(e:Sg)(h:Int):Int:=if e.1.2<e.2.2 then h-e.1.2 else e.1.2-h
def pX(e:Sg)(h:Int):Int:=pN e*e.1.1+pK e h*(e.2.1-e.1.1)
theorem aO5{e:Sg}{h:Int}(a:mZ e h):0<pN e/\0<=pK e h/\pK e h<=pN e/\pN e*(h-e.1.2)=pK e h*(e.2.2-e.1.2):=by
 unfold mZ at a;unfold pN pK;grind
theorem aQ3{e:Sg}{p:Vc}:ray e p↔mZ e p.2/\pN e*p.1<pX e p.2:=by
 unfold ray rayC mZ pX pN pK;by_cases h:e.1.2<e.2.2
 ·rw[QO h,QO h]
  have k:X (dif e.2 e.1) (dif p e.1)=(e.2.2-e.1.2)*e.1.1+(p.2-e.1.2)*(e.2.1-e.1.1)- (e.2.2-e.1.2)*p.1:=CO;omega
 ·rw[Q5 h,Q5 h]
  have k:X (dif e.2 e.1) (dif p e.1)=(e.1.2-e.2.2)*p.1- ((e.1.2-e.2.2)*e.1.1+(e.1.2-p.2)*(e.2.1-e.1.1)):=CO;omega
def aft(h:Int)(f g:Sg):Prop:=mZ g h/\pN g*pX f h<pN f*pX g h
theorem dU4{N:Int}(a:0<N)(e:Sg):pN (mulS N e)=N*pN e:=by
 unfold pN mulS mulV;exact Py
theorem eZ8{N:Int}(a:0<N)(e:Sg)(h:Int):pK (mulS N e) (N*h)=N*pK e h:=by
 unfold pK mulS mulV;exact Py
theorem eZ5{N:Int}(a:0<N)(e:Sg)(h:Int):pX (mulS N e) (N*h)=N*(N*pX e h):=by
 grind [dU4,eZ8,pX,mulS,mulV]
theorem dK4{N:Int}(a:0<N)(e:Sg)(h:Int):mZ (mulS N e) (N*h)↔mZ e h:=by
 unfold mZ mulS mulV;simp_all
def pZ(f:Sg)(h:Int):Vc:=(pX f h,pN f*h)
theorem eQ0{h:Int}{f g:Sg}(a:mZ f h):ray (mulS (pN f) g) (pZ f h)↔aft h f g:=by
 have b:=(aO5 a).1;simp_all [aQ3,dK4,dU4,eZ5,Int.mul_assoc,le_mul,pZ,aft]
theorem pZ_on{h:Int}{f:Sg}(a:mZ f h):Onp (pN f) (pK f h) (mulV (pN f) f.1) (mulV (pN f) f.2) (pZ f h):=by
 obtain⟨b,c,d,e⟩:=aO5 a;refine⟨b,c,d,?_,?_⟩
 ·unfold mulV pZ pX;simp only;grind
 ·grind [Int.mul_sub,Int.mul_assoc,Int.mul_comm,mulV,pZ,pN]
theorem dC1{h:Int}{f:Sg}(a:mZ f h)(v:Nat->Vc)(n:Nat)(b:∀g∈dD v n,Sep f.1 f.2 g):
 xr (dD v n) (λg=>decB (aft h f g))=par f.2 (dD v n):=by
 rw[<-cE3 (aO5 a).1 v n (pZ_on a) b];grind [cW9,jF,dZ6,eQ0,par]
theorem dJ0{m k y z:Int}(c:0<=m)(b:0<=k)(a:0<m+k)(h:m*y+k*z=0):¬(0<y/\0<z)/\¬(y<0/\z<0):=by
 have d:=sgn m y;have e:=sgn k z
 grind
theorem fB7{h:Int}{f g:Sg}(e:bI f)(j:bI g)(c:mZ f h)(i:mZ g h)(F:dG f g=0):pN g*pX f h≠pN f*pX g h:=by
 intro E;obtain⟨w,x,Q,R⟩:=aO5 c;obtain⟨y,z,S,T⟩:=aO5 i
 have l:f.1≠f.2:=by
  intro q;unfold mZ at c;rw[q]at c;omega
 have m:g.1≠g.2:=by
  intro q;unfold mZ at i;rw[q]at i;omega
 have G:=rC e j l F;unfold pX at E
 have D:(pN g-pK g h)*X (dif f.2 f.1) (dif g.1 f.1)+pK g h*X (dif f.2 f.1) (dif g.2 f.1)=0:=by
  have:pN f*((pN g-pK g h)*X (dif f.2 f.1) (dif g.1 f.1)+pK g h*X (dif f.2 f.1) (dif g.2 f.1))=0:=by
   unfold X dif;simp only;grind
  grind [Int.mul_eq_zero]
 have C:(pN f-pK f h)*X (dif g.2 g.1) (dif f.1 g.1)+pK f h*X (dif g.2 g.1) (dif f.2 g.1)=0:=by
  have:pN g*((pN f-pK f h)*X (dif g.2 g.1) (dif f.1 g.1)+pK f h*X (dif g.2 g.1) (dif f.2 g.1))=0:=by
   unfold X dif;simp only;grind
  grind [Int.mul_eq_zero]
 have r:=dJ0 Aa z Aa D;have s:=dJ0 Aa x Aa C
 rcases G with q|q|q|q|⟨H,I,J,K⟩
 ·exact r.1 q
 ·exact r.2 q
 ·exact s.1 q
 ·exact s.2 q
 have key:∃p,uH f g p/\Com f g p:=by
  have a:∀p:Vc,X (dif f.2 f.1) (dif p f.1)=0->min f.1.2 f.2.2<=p.2->p.2<=h->eX f p:=λp hx A B=>by
   rw[gZ e];refine⟨(nO (d:=pN f) (k:=pK f p.2) (u:=f.1) (v:=f.2) (p:=p) w ?_ ?_ l).2 ?_,hx⟩
   ·unfold mZ at c
    exact Qq
   ·unfold mZ at c
    unfold pN pK;split<;>grind
   ·unfold mZ at c
    unfold pN pK;split<;>omega
  have b:∀p:Vc,X (dif g.2 g.1) (dif p g.1)=0->min g.1.2 g.2.2<=p.2->p.2<=h->eX g p:=λp hx A B=>by
   rw[gZ j];refine⟨(nO (d:=pN g) (k:=pK g p.2) (u:=g.1) (v:=g.2) (p:=p) y ?_ ?_ m).2 ?_,hx⟩
   ·unfold mZ at i
    exact Qq
   ·unfold mZ at i
    unfold pN pK;split<;>grind
   ·unfold mZ at i
    unfold pN pK;split<;>omega
  have L:X (dif f.2 f.1) (dif f.1 f.1)=0:=by unfold X dif;simp
  have M:X (dif f.2 f.1) (dif f.2 f.1)=0:=F6;have N:X (dif g.2 g.1) (dif g.1 g.1)=0:=by unfold X dif;simp
  have O:X (dif g.2 g.1) (dif g.2 g.1)=0:=F6;have n:=c
  have o:=i;unfold mZ at n o;by_cases P:min g.1.2 g.2.2<=min f.1.2 f.2.2
  ·by_cases t:f.1.2<f.2.2
   ·exact⟨f.1, .inl rfl,a _ L Aa Aa,b _ J Aa Aa⟩
   ·exact⟨f.2, .inr (.inl rfl),a _ M Aa Aa,b _ K Aa Aa⟩
  ·by_cases t:g.1.2<g.2.2
   ·exact⟨g.1, .inr (.inr (.inl rfl)),a _ H Aa Aa,b _ N Aa Aa⟩
   ·exact⟨g.2, .inr (.inr (.inr rfl)),a _ I Aa Aa,b _ O Aa Aa⟩
 have:=(tells e j).touch.1 key;omega
theorem bool_split(a b x y:Bool)(h:a=true->b=true->(x^^y)=true):(a&&b)=((a&& (b&&x))^^(b&& (a&&y))):=by
 grind
theorem aH5{a b c n m k:Int}(j:0<n)(f:0<m)(e:n*a<b)(i:m*b<n*c):m*a<c:=by
 have g:m*(n*a)<m*b:=Int.mul_lt_mul_of_pos_left e f;have d:n*(m*a)<n*c:=by rw[Int.mul_left_comm];omega
 exact Int.lt_of_mul_lt_mul_left d Aa
theorem cT7{p:Vc}{b vh:Nat->Vc}{a nh:Nat}(l:∀g∈dD b a,bI g)(j:∀f∈dD vh nh,bI f)
 (t:∀f∈dD vh nh,∀g∈dD b a,dG f g=0/\dG g f=0)(u:∀f∈dD vh nh,f.1≠f.2)(v:∀g∈dD b a,g.1≠g.2)
 (r:∀f∈dD vh nh,par f.2 (dD b a)=true)(o:∀g∈dD b a,par g.2 (dD vh nh)=false)
 (w:par p (dD vh nh)=true):par p (dD b a)=true:=by
 have B:∀f∈dD vh nh,decB (ray f p)=true->xr (dD b a) (λg=>decB (ray g p)&&decB (aft p.2 f g))=true:=λf c i=>by
  rw[dH,aQ3]at i;rw[<-r f c,<-dC1 i.1 b a (λg d=>rC (j f c) (l g d) (u f c) (t f c g d).1)];refine jF (λg d=>?_);by_cases e:aft p.2 f g
  ·have:ray g p:=aQ3.2 ⟨e.1,aH5 (k:=0) (aO5 i.1).1 (aO5 e.1).1 i.2 e.2⟩
   rw[dH.2 e,dH.2 this];rfl
  ·rw[dW.2 e,Bool.and_false]
 have C:∀g∈dD b a,decB (ray g p)=true->xr (dD vh nh) (λf=>decB (ray f p)&&decB (aft p.2 g f))=false:=λg d i=>by
  rw[dH,aQ3]at i;rw[<-o g d,<-dC1 i.1 vh nh (λf c=>rC (l g d) (j f c) (v g d) (t f c g d).2)];refine jF (λf c=>?_);by_cases e:aft p.2 g f
  ·have:ray f p:=aQ3.2 ⟨e.1,aH5 (k:=0) (aO5 i.1).1 (aO5 e.1).1 i.2 e.2⟩
   rw[dH.2 e,dH.2 this];rfl
  ·rw[dW.2 e,Bool.and_false]
 have A:∀f∈dD vh nh,∀g∈dD b a,decB (ray f p)=true->decB (ray g p)=true->(decB (aft p.2 f g)^^decB (aft p.2 g f))=true:=λf c g d m n=>by
  rw[dH,aQ3]at m n;have z:=fB7 (j f c) (l g d) m.1 n.1 (t f c g d).1;by_cases s:pN g*pX f p.2<pN f*pX g p.2
  ·grind [dH,dW,aft]
  ·rw[dW.2 (show¬aft p.2 f g from λq=>s q.2),dH.2 (show aft p.2 g f from⟨m.1,Aa⟩)];rfl
 have m:xr (dD vh nh) (λf=>xr (dD b a) (λg=>decB (ray f p)&&decB (ray g p)))=par p (dD b a):=by
  rw[jF (g:=λf=>decB (ray f p)&&par p (dD b a)) (λf _=>bW6 _ _ _)];rw[jF (g:=λf=>par p (dD b a)&&decB (ray f p)) (λf _=>Bool.and_comm _ _),bW6];show(par p (dD b a)&&par p (dD vh nh))=_;rw[w,Bool.and_true]
 have n:xr (dD vh nh) (λf=>xr (dD b a) (λg=>decB (ray f p)&&decB (ray g p)))=
  (xr (dD vh nh) (λf=>xr (dD b a) (λg=>decB (ray f p)&& (decB (ray g p)&&decB (aft p.2 f g))))^^xr (dD vh nh) (λf=>xr (dD b a) (λg=>decB (ray g p)&& (decB (ray f p)&&decB (aft p.2 g f))))):=by
  rw[<-cA9];refine jF (λf c=>?_);rw[<-cA9];exact jF (λg d=>bool_split _ _ _ _ (A f c g d))
 have x:xr (dD vh nh) (λf=>xr (dD b a) (λg=>decB (ray f p)&& (decB (ray g p)&&decB (aft p.2 f g))))=true:=by
  rw[jF (g:=λf=>decB (ray f p)) (λf c=>?_)]
  ·exact w
  ·simp_all [bW6]
 have y:xr (dD vh nh) (λf=>xr (dD b a) (λg=>decB (ray g p)&& (decB (ray f p)&&decB (aft p.2 g f))))=false:=by
  rw[dI9,<-aD0 (dD b a)];refine jF (λg d=>?_);simp_all [bW6]
 rw[x,y]at n;rw[<-m,n];rfl
theorem eW1{c d v:Vc}(a:c≠d)(b:Bb (c,d) v)(e:X (dif d c) (dif v c)=0):∃N k,Onp N k c d v:=by
 unfold Bb at b;unfold X dif at e;simp only at b e;by_cases f:c.1=d.1
 ·have j:c.2≠d.2:=λh=>a (Prod.ext f h)
  have i:v.1=c.1:=Aa;by_cases g:c.2<d.2
  ·exact⟨d.2-c.2,v.2-c.2,Aa,Aa,Aa,Eh,Int.mul_comm _ _⟩
  ·exact⟨c.2-d.2,c.2-v.2,Aa,Aa,Aa,Eh,CV⟩
 ·by_cases g:c.1<d.1
  ·exact⟨d.1-c.1,v.1-c.1,Aa,Aa,Aa,Int.mul_comm _ _,CV⟩
  ·exact⟨c.1-d.1,c.1-v.1,Aa,Aa,Aa,CV,CV⟩
theorem cX7{s:Sg}(b:bI s)(a:s.1≠s.2){v:Vc}(h:eX s v):∃N k,Onp N k s.1 s.2 v:=by
 grind [gZ,eW1]
theorem eP6{s t:Sg}(hs:bI s)(ht:bI t)(c:s.1≠s.2)(j:t.1≠t.2)(hd:xD s t=0)(b:xB s t=0){v:Vc}(hv:Com s t v):∃p,uH s t p/\Com s t p:=by
 obtain⟨g,i,k,l⟩:=vK s t;have hw:=bZ7 c;have la:onL (dif s.2 s.1) s.1 s.1:=by unfold onL X dif;simp
 have lb:onL (dif s.2 s.1) s.1 s.2:=ES;have lc:onL (dif s.2 s.1) s.1 t.1:=by unfold onL;rw[g,b];rfl
 have ld:onL (dif s.2 s.1) s.1 t.2:=by unfold onL;rw[i,b,hd];rfl
 have f:onL (dif s.2 s.1) s.1 v:=((gZ hs).1 hv.1).2;have lt':∀p,onL (dif s.2 s.1) s.1 p->X (dif t.2 t.1) (dif p t.1)=0:=λp hp=>JU
 have a:∀p,onL (dif s.2 s.1) s.1 p->(Com s t p↔(min (co (dif s.2 s.1) s.1) (co (dif s.2 s.1) s.2)<=co (dif s.2 s.1) p/\co (dif s.2 s.1) p<=max (co (dif s.2 s.1) s.1) (co (dif s.2 s.1) s.2))/\
  (min (co (dif s.2 s.1) t.1) (co (dif s.2 s.1) t.2)<=co (dif s.2 s.1) p/\co (dif s.2 s.1) p<=max (co (dif s.2 s.1) t.1) (co (dif s.2 s.1) t.2))):=λp hp=>by
  exact Oz
 have d:=(a v f).1 hv;generalize co (dif s.2 s.1) v=y at*;rcases(show(co (dif s.2 s.1) s.1=max (min (co (dif s.2 s.1) s.1) (co (dif s.2 s.1) s.2)) (min (co (dif s.2 s.1) t.1) (co (dif s.2 s.1) t.2)))\/(co (dif s.2 s.1) s.2=max (min (co (dif s.2 s.1) s.1) (co (dif s.2 s.1) s.2)) (min (co (dif s.2 s.1) t.1) (co (dif s.2 s.1) t.2)))\/(co (dif s.2 s.1) t.1=max (min (co (dif s.2 s.1) s.1) (co (dif s.2 s.1) s.2)) (min (co (dif s.2 s.1) t.1) (co (dif s.2 s.1) t.2)))\/(co (dif s.2 s.1) t.2=max (min (co (dif s.2 s.1) s.1) (co (dif s.2 s.1) s.2)) (min (co (dif s.2 s.1) t.1) (co (dif s.2 s.1) t.2))) from Aa)with h|h|h|h
 ·exact⟨s.1, .inl rfl,(a _ la).2 Aa⟩
 ·exact⟨s.2, .inr (.inl rfl),(a _ lb).2 Aa⟩
 ·exact⟨t.1, .inr (.inr (.inl rfl)),(a _ lc).2 Aa⟩
 ·exact⟨t.2, .inr (.inr (.inr rfl)),(a _ ld).2 Aa⟩
theorem eK6{N k:Int}{c d v:Vc}(h:Onp N k c d v)(u w:Vc):(0<X u (dif c w)->0<X u (dif d w)->0<X u (dif v w))/\(X u (dif c w)<0->X u (dif d w)<0->X u (dif v w)<0):=by
 obtain⟨a,b,f,g,i⟩:=h;have e:N*X u (dif v w)=(N-k)*X u (dif c w)+k*X u (dif d w):=CO;have j:=sgn N (X u (dif v w))
 have l:=sgn (N-k) (X u (dif c w));have m:=sgn k (X u (dif d w))
 grind
theorem eZ7{s t:Sg}(c:bI s)(d:bI t)(e:s.1≠s.2)(f:t.1≠t.2)(n:dG s t=0){v:Vc}(a:eX s v)(b:eX t v):False:=by
 obtain⟨N,k,l⟩:=cX7 c e a;obtain⟨M,j,m⟩:=cX7 d f b;have x:=((gZ c).1 a).2;have y:=((gZ d).1 b).2
 have g:=eK6 m (dif s.2 s.1) s.1;have i:=eK6 l (dif t.2 t.1) t.1
 rcases rC c d e n with q|q|q|q|q
 ·have:=g.1 q.1 q.2;omega
 ·have:=g.2 q.1 q.2;omega
 ·have:=i.1 q.1 q.2;omega
 ·have:=i.2 q.1 q.2;omega
 ·obtain⟨o,r,u,w⟩:=vK s t
  have:=(tells c d).touch.1 (eP6 c d e f Aa Aa ⟨a,b⟩);omega
theorem dM4{s t:Sg}:dG s t=0\/dG s t=1\/dG s t=2\/dG s t=3:=by
 unfold dG kQ;split
 ·exact .inl rfl
 ·split
  ·unfold lines
   simp only;split
   ·exact .inl rfl
   ·grind [aH6]
  ·split
   ·exact .inr (.inl rfl)
   ·split
    ·exact .inr (.inl rfl)
    ·split
     ·exact .inl rfl
     ·unfold yD
      split
      ·exact .inr (.inl rfl)
      ·split
       ·exact .inr (.inr (.inr rfl))
       ·exact .inl rfl
theorem eD0{s t:Sg}{p:Vc}:uH s t p/\Com s t p↔uH t s p/\Com t s p:=by
 unfold uH Com;constructor
 ·grind
 ·grind
theorem bS4{s t:Sg}(c:bI s)(d:bI t):dG s t=0↔(¬∃p,uH s t p/\Com s t p)/\¬zT9 s t:=by
 have h:=tells c d;have hv:=dM4 (s:=s) (t:=t)
 constructor
 ·intro f
  have e:¬∃p,uH s t p/\Com s t p:=λq=>by have:=h.touch.1 q;omega
  exact⟨e,λq=>by have:=h.cross.2 ⟨e,q⟩;omega⟩
 ·rintro⟨a,b⟩
  rcases hv with q|q|q|q
  ·exact q
  ·exact absurd (h.touch.2 (.inl q)) a
  ·exact absurd (h.cross.1 q).2 b
  ·exact absurd (h.touch.2 (.inr q)) a
theorem dS2{s t:Sg}(a:bI s)(b:bI t)(h:dG s t=0):dG t s=0:=by
 rw[bS4 a b]at h;rw[bS4 b a];refine⟨λ⟨p,c⟩=>h.1 ⟨p,eD0.1 c⟩,λq=>h.2 ?_⟩;exact⟨q.2,q.1⟩
theorem vV{r:Rg}(h:3<=r.length):bF r=dD (λi=>r.getD i z0) r.length:=by
 unfold bF dD;rw[Q5 Aa];refine Tc (λi hi=>?_);have:=SH.1 hi
 show(r.getD i z0,iU r i)=_;rw[Nat.mod_eq_of_lt this];rfl
theorem bC9{r:Rg}(h:3<=r.length){e:Sg}:e∈bF r↔∃i,i<r.length/\e=aJ4 r i:=by
 unfold bF;rw[Q5 Aa,Ru];constructor
 ·rintro⟨i,hi,rfl⟩;exact⟨i,SH.1 hi,rfl⟩
 ·rintro⟨i,hi,rfl⟩;exact⟨i,SH.2 hi,rfl⟩
theorem vN{r:Rg}(a:bR7 r){v:Vc}(hv:v∈r):Sm4 v:=by
 have:=a v hv;rw[within_iff Aa]at this;unfold Sm4;omega
theorem aG8{r:Rg}(h:dM r){e:Sg}(f:e∈bF r):e.1≠e.2:=by
 obtain⟨i,hi,rfl⟩:=(bC9 h.1).1 f;intro g;have j:=h.2.2.2.2.1 i hi;apply j;have b:=vN h.2.2.1 (aE1 hi)
 have c:=vN h.2.2.1 (v:=mY r i) (aE1 (SA _ Aa));have d:=vN h.2.2.1 (bA6 hi)
 rw[zH c b d];have a:r.getD i z0=iU r i:=g;rw[a];have:X (dif (iU r i) (mY r i)) (dif (iU r i) (mY r i))=0:=by unfold X;rw[Int.mul_comm];omega
 rw[this];rfl
theorem bH8{p:Vc}(d:Sm4 p):∀ {l:List Sg} {b:Bool},(∀e∈l,bI e)->(∀e∈l,¬eX e p)->lU (p.1,p.2,1) l b=if(b^^par p l)=true then 2 else 0
 | [],b,_,_=>by
   rw[qB];show _=if(b^^false)=true then 2 else 0
   rw[Bool.xor_false]
 |e::l,b,a,c=>by
  have g:=a e Af;have i:=c e Af
  have j:¬onE (p.1,p.2,1) e:=λq=>i ((cC3 d g).1 q);have f:par p (e::l)=(decB (ray e p)^^par p l):=rfl
  have k:=λb=>bH8 d (l:=l) (b:=b) (λx hx=>a x BI) (λx hx=>c x BI);grind [rE,dH,dD7,jD,dW,ray]
def onR(r:Rg)(v:Vc):Prop:=∃e∈bF r,eX e v
theorem nZ{r:Rg}(h:dM r){v:Vc}(hv:Sm4 v):fJ r v=1↔onR r v:=by
 rw[aC1 (pY.2 hv),aD9 h (bC7 hv),yZ];constructor
 ·rintro⟨e,a,q⟩;exact⟨e,a,(cC3 hv (jO h.2.2.1 a)).1 q⟩
 ·rintro⟨e,a,q⟩;exact⟨e,a,(cC3 hv (jO h.2.2.1 a)).2 q⟩
theorem zS9{r:Rg}(h:dM r){v:Vc}(hv:Sm4 v)(b:¬onR r v):fJ r v=if par v (bF r)=true then 2 else 0:=by
 rw[aC1 (pY.2 hv),aD9 h (bC7 hv),bH8 hv (λe a=>jO h.2.2.1 a) (λe a q=>b ⟨e,a,q⟩),Bool.false_xor]
theorem zD{r:Rg}(h:dM r){v:Vc}(hv:Sm4 v):fJ r v=2↔¬onR r v/\par v (bF r)=true:=by
 constructor
 ·grind [nZ,zS9]
 ·simp_all [zS9,QO]
theorem aE8{r:Rg}(h:dM r){v:Vc}(hv:Sm4 v):fJ r v=0↔¬onR r v/\par v (bF r)=false:=by
 grind [nZ,zS9]
structure Apart(a b:Rg):Prop where
 oa:dM a
 ob:dM b
 ap:uV a b
theorem Apart.symm{a b:Rg}(h:Apart a b):Apart b a:=⟨h.ob,h.oa,λx c y d=>dS2 (jO h.oa.2.2.1 d) (jO h.ob.2.2.1 c) (h.ap y d x c)⟩
theorem Apart.sep{a b:Rg}(h:Apart a b){f g:Sg}(c:f∈bF a)(d:g∈bF b):Sep f.1 f.2 g:=
 rC (jO h.oa.2.2.1 c) (jO h.ob.2.2.1 d) (aG8 h.oa c) (h.ap f c g d)
theorem Apart.off{a b:Rg}(h:Apart a b){v:Vc}(hv:onR a v):¬onR b v:=by
 rintro⟨g,d,q⟩;obtain⟨f,c,p⟩:=hv;exact eZ7 (jO h.oa.2.2.1 c) (jO h.ob.2.2.1 d) (aG8 h.oa c) (aG8 h.ob d) (h.ap f c g d) p q
theorem Apart.along{a b:Rg}(h:Apart a b){f:Sg}(c:f∈bF a){v:Vc}(hv:eX f v):par v (bF b)=par f.2 (bF b):=by
 obtain⟨N,k,e⟩:=cX7 (jO h.oa.2.2.1 c) (aG8 h.oa c) hv;rw[vV h.ob.1];exact eY9 _ _ e (λg d=>h.sep c (by rw[vV h.ob.1];exact d))
theorem vert_onR{r:Rg}(h:dM r){v:Vc}(hv:v∈r):onR r v:=by
 obtain⟨e,a,rfl⟩:=bC8 h.1 hv;exact⟨e,a,rH (jO h.2.2.1 a)⟩
theorem vH{r:Rg}(h:dM r){e:Sg}(a:e∈bF r):e.1∈r/\e.2∈r:=by
 obtain⟨i,hi,rfl⟩:=(bC9 h.1).1 a;exact⟨aE1 hi,bA6 hi⟩
theorem Apart.const{a b:Rg}(h:Apart a b):∀i,i<a.length->par (a.getD i z0) (bF b)=par (a.getD 0 z0) (bF b):=by
 intro i
 induction i with
 |zero=>intro _;rfl
 |succ i e=>
  intro hi;rw[<-e Aa];have c:aJ4 a i∈bF a:=(bC9 h.oa.1).2 ⟨i,Aa,rfl⟩;have k:=h.along c (rH (jO h.oa.2.2.1 c))
  have d:(aJ4 a i).2=a.getD (i+1) z0:=by
   show iU a i=_;unfold iU;rw[Nat.mod_eq_of_lt hi]
  rw[d]at k;exact k.symm
theorem Apart.fC0{a b:Rg}(h:Apart a b){u v:Vc}(d:u∈a)(hv:v∈a):par u (bF b)=par v (bF b):=by
 obtain⟨i,hi,rfl⟩:=List.mem_iff_getElem.1 d;obtain⟨j,c,rfl⟩:=List.mem_iff_getElem.1 hv;have e:=h.const i hi;have f:=h.const j c
 simp_all
theorem eB8:∀ {l:List Vc},l≠ []->∃m∈l,∀v∈l,v.2<=m.2
 | [],h=>absurd rfl h
 | [x],_=>⟨x,Af,λv hv=>by rw[QW.1 hv];omega⟩
 |x::y::l,_=>by
  obtain⟨m,a,b⟩:=eB8 (l:=y::l) Af;by_cases h:m.2<=x.2
  ·grind
  ·grind
theorem Apart.outer{h o:Rg}(c:Apart h o)(f:pR h o 2):∀v∈o,par v (bF h)=false:=by
 have g:o≠ [] :=λq=>by have:=c.ob.1;rw[q]at this;simp at this
 obtain⟨m,p,b⟩:=eB8 g
 have a:∀u∈h,u.2<=m.2:=by
  intro u l;by_cases r:u.2<=m.2
  ·exact r
  exfalso;have k:=((zD c.ob (vN c.oa.2.2.1 l)).1 (f u l)).2
  rw[dH1 (λe d=>by
   obtain⟨i,j⟩:=vH c.ob d;have:=b _ i;have:=b _ j;omega)]at k
  cases k
 have n:par m (bF h)=false:=dH1 (λe d=>by
  obtain⟨i,j⟩:=vH c.oa d;exact⟨a _ i,a _ j⟩)
 intro v hv;rw[<-n];exact c.symm.fC0 hv p
theorem Apart.inner{h o:Rg}(ha:Apart h o)(hin:pR h o 2){v:Vc}(hv:Sm4 v)(l:fJ h v≠0):fJ o v=2:=by
 rw[zD ha.ob hv];by_cases d:onR h v
 ·refine⟨ha.off d,?_⟩
  obtain⟨f,hf,q⟩:=d;rw[ha.along hf q];exact PZ
 ·have b:par v (bF h)=true:=by
   cases k:par v (bF h)
   ·exact absurd ((aE8 ha.oa hv).2 ⟨d,k⟩) l
   ·rfl
  have c:=ha.outer hin;constructor
  ·rintro⟨g,a,q⟩
   have:=ha.symm.along a q;rw[b,c _ (vH ha.ob a).2]at this;cases this
  ·have j:=vV ha.ob.1
   have e:=vV ha.oa.1;rw[j];rw[e]at b;refine cT7 (vh:=λi=>h.getD i z0) (nh:=h.length) ?_ ?_ ?_ ?_ ?_ ?_ ?_ b
   ·intro g a;rw[<-j]at a;exact jO ha.ob.2.2.1 a
   ·intro f hf;rw[<-e]at hf;exact jO ha.oa.2.2.1 hf
   ·intro f hf g a
    rw[<-e]at hf;rw[<-j]at a;exact⟨ha.ap f hf g a,ha.symm.ap g a f hf⟩
   ·intro f hf;rw[<-e]at hf;exact aG8 ha.oa hf
   ·intro g a;rw[<-j]at a;exact aG8 ha.ob a
   ·intro f hf
    rw[<-e]at hf;rw[<-j];exact PZ
   ·intro g a
    rw[<-j]at a;rw[<-e];exact c _ (vH ha.ob a).2
theorem Apart.beside{h k:Rg}(a:Apart h k)(c:pR h k 0){v:Vc}(b:onR h v)(hv:Sm4 v):fJ k v=0:=by
 rw[aE8 a.ob hv];refine⟨a.off b,?_⟩;obtain⟨f,e,q⟩:=b;rw[a.along e q];have d:=(vH a.oa e).2;exact((aE8 a.ob (vN a.oa.2.2.1 d)).1 (c _ d)).2
theorem bK3{o:Rg}:∀ {l pre:List Rg},qR o pre l->(∀r∈l,dM r)->dM o->∀h∈l,Apart h o/\pR h o 2
 | [],_,_,_,_,h,a=>by cases a
 |x::l,pre,b,d,c,h,a=>by
  rcases Rh.1 a with rfl|a
  ·exact⟨⟨d h Af,c,b.1.2.1⟩,b.1.1⟩
  ·exact bK3 b.2 (λr q=>d r (by simp[q])) c h a
theorem bK4{s:Sh}(a:bG s){h:Rg}(b:h∈s.holes):Apart h s.outer/\pR h s.outer 2:=
 bK3 a.2.2.2 (λr hr=>a.2.1 r Dn) (a.2.1 s.outer AQ) h b
theorem bF4{o:Rg}:∀ {l pre:List Rg},qR o pre l->∀ {i j:Nat} {a b:Rg},i<j->(pre++l)[i]? =some a->l[j-pre.length]? =some b->pre.length<=j->uV b a/\pR b a 0/\pR a b 0
 | [],pre,_,i,j,a,b,c,e,d,m=>by simp at d
 |x::l,pre,f,i,j,a,b,c,e,d,m=>by
  by_cases g:j=pre.length
  ·subst g
   rw[Nat.sub_self]at d;cases d
   have k:a∈pre:=by
    grind
   exact f.1.2.2 a k
  ·refine bF4 (l:=l) (pre:=pre++[x]) f.2 c (by rw[SE];exact e) ?_ AV
   rw[QU,QY];grind
theorem cS9{s:Sh}(d:bG s){i j:Nat}{a b:Rg}(c:i<j)(e:s.holes[i]? =some a)(f:s.holes[j]? =some b):Apart b a/\pR b a 0/\pR a b 0:=by
 have h:=bF4 (pre:=[]) d.2.2.2 c e f (RI _);exact⟨⟨d.2.1 b (by unfold rings;simp[QT f]),d.2.1 a (by unfold rings;simp[QT e]),h.1⟩,h.2⟩
def lG(v:Vc)(o:Int):List Rg->Int
 | [] =>o
 |h::l=>if fJ h v=2 then 0 else if fJ h v=1 then 1 else lG v o l
theorem cJ3{r:Rg}{v:Vc}:fJ r v=0\/fJ r v=1\/fJ r v=2:=by
 grind [fL3,fJ,iF]
theorem cI4{r:Rg}{v:Vc}(hv:Sm4 v):iF r (v.1,v.2,1)=fJ r v:=(aC1 (pY.2 hv)).symm
theorem bT3{v:Vc}(hv:Sm4 v)(o:Int):∀l:List Rg,qG o (v.1,v.2,1) l=lG v o l
 | [] =>rfl
 |h::l=>by
  rw[qG,lG,cI4 hv,bT3 hv o l]
theorem tH{v:Vc}{o:Int}:∀ {l:List Rg},(∀h∈l,fJ h v=0)->lG v o l=o
 | [],_=>rfl
 |h::l,a=>by
  simp_all [Q5,tH,lG]
theorem eG3{s:Sh}(b:bG s){v:Vc}(hv:Sm4 v):lJ s v=lG v (fJ s.outer v) s.holes:=by
 unfold lJ;rw[QO (pY.2 hv)];unfold qW;rw[QO b,cI4 hv,bT3 hv];by_cases d:∃h∈s.holes,fJ h v≠0
 ·obtain⟨h,e,f⟩:=d
  obtain⟨c,a⟩:=bK4 b e;rw[c.inner a hv f,QO rfl]
 ·grind [tH]
theorem fD8{s:Sh}(c:bG s){v:Vc}(hv:Sm4 v):lJ s v=1↔∃r∈rings s,onR r v:=by
 have A:dM s.outer:=c.2.1 _ AQ;rw[eG3 c hv];constructor
 ·intro h
  by_cases y:∃h∈s.holes,fJ h v=1
  ·obtain⟨r,e,B⟩:=y
   exact⟨r,by unfold rings;simp[e],(nZ (c.2.1 r (by unfold rings;simp[e])) hv).1 B⟩
  ·have key:∀l:List Rg,(∀r∈l,fJ r v≠1)->lG v (fJ s.outer v) l=1->fJ s.outer v=1:=by
    intro l
    induction l with
    |nil=>intro _ h;exact h
    |cons x l t=>
     intro q h;rw[lG]at h;grind
   grind [nZ,rings]
 ·rintro⟨r,hr,b⟩
  rcases Rh.1 (show r∈s.outer::s.holes from hr)with rfl|hr
  ·have u:∀h∈s.holes,fJ h v=0:=λh e=>by
    obtain⟨f,g⟩:=bK4 c e;by_cases q:fJ h v=0
    ·exact q
    ·have:=f.inner g hv q
     have:=(nZ A hv).2 b;omega
   grind [tH,nZ]
  ·obtain⟨j,m⟩:=List.mem_iff_getElem?.1 hr
   have d:dM r:=c.2.1 r Dn;have C:=(nZ d hv).2 b
   have key:∀(l:List Rg) (n:Nat),(∀i a,l[i]? =some a->s.holes[n+i]? =some a)->n<=j->l[j-n]? =some r->lG v (fJ s.outer v) l=1:=by
    intro l
    induction l with
    |nil=>intro n _ _ h;simp at h
    |cons x l t=>
     intro n o E F;rw[lG];by_cases z:j=n
     ·simp_all
     ·have k:=o 0 x rfl
      obtain⟨f,w,D⟩:=cS9 c (i:=n) (j:=j) Aa k m;have u:=f.beside w b hv;rw[Q5 Aa,Q5 Aa];refine t (n+1) (λi a hi=>?_) Aa ?_
      ·rw[TN,Nat.add_comm 1]
       exact o (i+1) a (by rw[RZ];exact hi)
      ·grind
   exact key s.holes 0 (λi a h=>by rw[Tm];exact h) (RI _) m
end Go.Proofs.Led
