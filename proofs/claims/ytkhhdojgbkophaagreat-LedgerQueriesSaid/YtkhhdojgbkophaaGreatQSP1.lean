/-
  Rays to the right and segments that edges keep away from: one edge.
-/
import Derived.Test.YtkhhdojgbkophaaGreatQB15
set_option linter.unusedVariables false
set_option linter.unusedSimpArgs false
set_option maxRecDepth 100000
set_option maxHeartbeats 4000000
noncomputable section
namespace Go.Proofs.Led
open Go Go.Proofs Go.Ab
theorem sgn(x y:Int):(0<x->0<y->0<x*y)/\(0<x->y<0->x*y<0)/\(x<0->0<y->x*y<0)/\(x<0->y<0->0<x*y)/\(x=0->x*y=0)/\(y=0->x*y=0):=
 ⟨Int.mul_pos,Int.mul_neg_of_pos_of_neg,Int.mul_neg_of_neg_of_pos,Int.mul_pos_of_neg_of_neg,fun h=>by rw[h,Int.zero_mul],fun h=>by rw[h,Int.mul_zero]⟩
def ray(e:Sg)(p:Vc):Prop:=rayC e p (X (dif e.2 e.1) (dif p e.1))
def inRt(p q z:Vc):Prop:=p.2<z.2/\z.2<=q.2/\X (dif q p) (dif z p)<0
def Sep(p q:Vc)(e:Sg):Prop:=
 (0<X (dif q p) (dif e.1 p)/\0<X (dif q p) (dif e.2 p))\/(X (dif q p) (dif e.1 p)<0/\X (dif q p) (dif e.2 p)<0)\/
 (0<X (dif e.2 e.1) (dif p e.1)/\0<X (dif e.2 e.1) (dif q e.1))\/(X (dif e.2 e.1) (dif p e.1)<0/\X (dif e.2 e.1) (dif q e.1)<0)\/
 (X (dif q p) (dif e.1 p)=0/\X (dif q p) (dif e.2 p)=0/\X (dif e.2 e.1) (dif p e.1)=0/\X (dif e.2 e.1) (dif q e.1)=0)
theorem fK2{w G:Int}(hw:0<w):(0<G↔0<w*G)/\(G<0↔w*G<0):=by
 have s:=sgn w G;generalize w*G=m at*;omega
theorem eB3{w a b Sc Sd Gp Gq:Int}(hw:0<w)(E1:w*Gp=a*Sd-b*Sc)(E2:w*Gq=(a-w)*Sd- (b-w)*Sc)
 (hs:(0<Sc/\0<Sd)\/(Sc<0/\Sd<0)\/(0<Gp/\0<Gq)\/(Gp<0/\Gq<0)\/(Sc=0/\Sd=0/\Gp=0/\Gq=0)):
 ((((a<=0/\0<b/\0<Gp)\/(b<=0/\0<a/\Gp<0))↔((a<=w/\w<b/\0<Gq)\/(b<=w/\w<a/\Gq<0)))↔((0<a/\a<=w/\Sc<0)↔(0<b/\b<=w/\Sd<0))):=by
 have g1:=fK2 (G:=Gp) hw;have g2:=fK2 (G:=Gq) hw
 rw[E1]at g1;rw[E2]at g2;clear E1 E2;have hz:a-w<0\/a-w=0\/0<a-w:=Aa;have hy:b-w<0\/b-w=0\/0<b-w:=Aa
 rcases hs with⟨hSc,hSd⟩|⟨hSc,hSd⟩|⟨h1,h2⟩|⟨h1,h2⟩|⟨h1,h2,h3,h4⟩
 ·exact JD
 ·exact JD
 ·exact JA
 ·exact JA
 ·omega
theorem ids(p q c d:Vc):(q.2-p.2)*X (dif d c) (dif p c)=(c.2-p.2)*X (dif q p) (dif d p)- (d.2-p.2)*X (dif q p) (dif c p)/\
 (q.2-p.2)*X (dif d c) (dif q c)=(c.2-p.2- (q.2-p.2))*X (dif q p) (dif d p)- (d.2-p.2- (q.2-p.2))*X (dif q p) (dif c p):=by
 unfold X dif;simp only;constructor<;>grind
theorem eT3{p q:Vc}{e:Sg}(hpq:p.2<=q.2)(h:Sep p q e):(ray e p↔ray e q)↔(inRt p q e.1↔inRt p q e.2):=by
 obtain⟨c,d⟩:=e;obtain⟨i1,i2⟩:=ids p q c d;unfold Sep at h;unfold ray rayC inRt;simp only at*;by_cases hw:p.2=q.2
 ·have hS:∀z:Vc,X (dif q p) (dif z p)=(q.1-p.1)*(z.2-p.2):=fun z=>by unfold X dif;simp only;rw[hw];simp
  rw[hS,hS]at h;have s1:=sgn (q.1-p.1) (c.2-p.2);have s2:=sgn (q.1-p.1) (d.2-p.2)
  generalize X (dif d c) (dif p c)=Gp at*;generalize X (dif d c) (dif q c)=Gq at*;clear i1 i2 hS;generalize (q.1-p.1)*(c.2-p.2)=m1 at*;generalize (q.1-p.1)*(d.2-p.2)=m2 at*;generalize X (dif q p) (dif c p)=x1 at*;generalize X (dif q p) (dif d p)=x2 at*;obtain⟨a1,a2,a3,a4,a5,a6⟩:=s1;obtain⟨b1,b2,b3,b4,b5,b6⟩:=s2;rcases Int.lt_trichotomy (q.1-p.1) 0 with h1|h1|h1<;>
  rcases Int.lt_trichotomy (c.2-p.2) 0 with h2|h2|h2<;>
  rcases Int.lt_trichotomy (d.2-p.2) 0 with h3|h3|h3<;>
  omega
 ·have k:=eB3 (w:=q.2-p.2) (a:=c.2-p.2) (b:=d.2-p.2) Aa i1 i2 h
  generalize X (dif d c) (dif p c)=Gp at*;generalize X (dif d c) (dif q c)=Gq at*;generalize X (dif q p) (dif c p)=x1 at*;generalize X (dif q p) (dif d p)=x2 at*;clear i1 i2 h;have e1:(c.2<=p.2/\p.2<d.2/\0<Gp)\/(d.2<=p.2/\p.2<c.2/\Gp<0)↔(c.2-p.2<=0/\0<d.2-p.2/\0<Gp)\/(d.2-p.2<=0/\0<c.2-p.2/\Gp<0):=Aa;have e2:(c.2<=q.2/\q.2<d.2/\0<Gq)\/(d.2<=q.2/\q.2<c.2/\Gq<0)↔(c.2-p.2<=q.2-p.2/\q.2-p.2<d.2-p.2/\0<Gq)\/(d.2-p.2<=q.2-p.2/\q.2-p.2<c.2-p.2/\Gq<0):=Aa
  have e3:p.2<c.2/\c.2<=q.2/\x1<0↔0<c.2-p.2/\c.2-p.2<=q.2-p.2/\x1<0:=Aa;have e4:p.2<d.2/\d.2<=q.2/\x2<0↔0<d.2-p.2/\d.2-p.2<=q.2-p.2/\x2<0:=Aa
  rw[e1,e2,e3,e4];exact k
theorem dW0{p q:Vc}{e:Sg}(h:Sep p q e):Sep q p e:=by
 have h1:∀z:Vc,X (dif p q) (dif z q)= -X (dif q p) (dif z p):=fun z=>CJ;unfold Sep at*;rw[h1,h1];omega
structure Onp(N k:Int)(c d z:Vc):Prop where
 pos:0<N
 lo:0<=k
 hi:k<=N
 e1:N*(z.1-c.1)=k*(d.1-c.1)
 e2:N*(z.2-c.2)=k*(d.2-c.2)
theorem eN3{N:Int}{c d z:Vc}(h:Onp N N c d z):z=d:=by
 have h1:=Int.eq_of_mul_eq_mul_left (by have:=h.pos;omega) h.e1
 have h2:=Int.eq_of_mul_eq_mul_left (by have:=h.pos;omega) h.e2
 exact Prod.ext Aa Aa
theorem dI1{N m x y:Int}(hN:0<N)(hm:0<m)(h:N*x=m*y):(0<y->0<x)/\(y<0->x<0)/\(y=0->x=0):=by
 have s1:=sgn N x;have s2:=sgn m y
 rw[<-h]at s2;generalize N*x=t at*;omega
theorem eT5{N m k x y z:Int}(hN:0<N)(hm:0<m)(hk:0<=k)(h:N*x=m*y+k*z):(0<y->0<z->0<x)/\(y<0->z<0->x<0)/\(y=0->z=0->x=0):=by
 have s1:=sgn N x;have s2:=sgn m y
 have s3:=sgn k z;generalize N*x=t at*;generalize m*y=t2 at*;generalize k*z=t3 at*;omega
theorem eL1{N k:Int}{c d z:Vc}{e:Sg}(hz:Onp N k c d z)(hk:k<N)(h:Sep c d e):Sep z d e:=by
 obtain⟨hN,hk0,_,z1,z2⟩:=hz
 have hS:∀u:Vc,N*X (dif d z) (dif u z)=(N-k)*X (dif d c) (dif u c):=fun u=>by
  unfold X dif;simp only;have a1:N*(d.1-z.1)=(N-k)*(d.1-c.1):=BV;have a2:N*(d.2-z.2)=(N-k)*(d.2-c.2):=BV
  grind
 have hG:N*X (dif e.2 e.1) (dif z e.1)=(N-k)*X (dif e.2 e.1) (dif c e.1)+k*X (dif e.2 e.1) (dif d e.1):=by
  unfold X dif;simp only;grind
 have g1:=dI1 hN Aa (hS e.1);have g2:=dI1 hN Aa (hS e.2)
 have g3:=eT5 hN Aa hk0 hG;clear hS hG z1 z2;unfold Sep at*;omega
theorem rC{s t:Sg}(hs:bI s)(ht:bI t)(hne:s.1≠s.2)(h:dG s t=0):Sep s.1 s.2 t:=by
 obtain⟨x1,x2,x3,x4⟩:=vK s t;unfold Sep;rw[x1,x2,x3,x4];by_cases hd:xD s t=0
 ·by_cases hB:xB s t=0
  ·have hA:xA s t=0:=by
    unfold xA;refine aL3 (w:=dif s.2 s.1) hB ?_ (bZ7 hne);have:xD s t= -X (dif t.2 t.1) (dif s.2 s.1):=by unfold xD X dif;simp only;grind
    omega
   omega
  ·omega
 ·rw[dI7 hs ht hd]at h
  split at h
  ·unfold uJ at h
   split at h
   ·omega
   ·split at h<;>omega
  ·unfold uJ at h
   split at h
   ·omega
   ·split at h<;>omega
end Go.Proofs.Led
