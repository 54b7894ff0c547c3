/-
  Where two segments meet: parallel segments.
-/
import Derived.Test.YtdjgbagnajikeaaGreatDoorB11
set_option linter.unusedVariables false
set_option linter.unusedSimpArgs false
set_option maxRecDepth 100000
set_option maxHeartbeats 4000000
noncomputable section
namespace Go.Proofs.Led
open Go Go.Proofs Go.Ab
theorem cD2{u p:Vc}(h:Bb (u,u) p):p=u:=by
 grind [Bb]
theorem cW7{s t:Sg}(b:bI s)(e:bI t)(hd:xD s t=0)(c:s.1=s.2):bT6 s t (dG s t):=by
 have a:∀p,Com s t p↔p=s.1/\eX t s.1:=by
  intro p;constructor
  ·rintro⟨j,i⟩
   have d:p=s.1:=cD2 (u:=s.1) (by have:=((gZ b).1 j).1;unfold Bb at*;rw[<-c]at this;exact this)
   exact⟨d,d▸i⟩
  ·rintro⟨rfl,h⟩
   exact⟨rH b,h⟩
 have f:xB s t=0:=by unfold xB;rw[<-c];unfold X dif;simp
 have hcr:¬zT9 s t:=by rw[wY b e,f,hd];omega
 have g:dG s t=open Classical in if eX t s.1 then 1 else 0:=by
  obtain⟨e1,_,_⟩:=aM8 b e;unfold dG kQ;rw[Q5 (by rintro(h|h)<;>exact h Ag),Q5 H9]
  by_cases h:eX t s.1
  ·rw[Q9 ⟨c,h⟩,Q9 h];rfl
  ·rw[Q5 (λq=>h q.2),Q5 h,Q5,Q9 (.inl c)]
   ·rfl
   ·grind [cD2,gZ,rH,Bb]
 rw[g];by_cases h:eX t s.1
 ·rw[Q9 h]
  refine⟨⟨λh=>Ah,?_⟩,⟨λ_=> .inl rfl,λ_=>⟨s.1, .inl rfl,(a _).2 ⟨rfl,h⟩⟩⟩,⟨λh=>Ah,λh=>absurd h.2 hcr⟩⟩;grind
 ·exact KG
theorem dA9{s t:Sg}(e:bI s)(b:bI t)(hd:xD s t=0)(d:s.1≠s.2)(c:t.1=t.2):bT6 s t (dG s t):=by
 have a:∀p,Com s t p↔p=t.1/\eX s t.1:=by
  intro p;constructor
  ·rintro⟨k,j⟩
   have f:p=t.1:=cD2 (u:=t.1) (by have:=((gZ b).1 j).1;unfold Bb at*;rw[<-c]at this;exact this)
   exact⟨f,f▸k⟩
  ·rintro⟨rfl,h⟩
   exact⟨h,rH b⟩
 have g:xA s t=0:=by unfold xA;rw[<-c];unfold X dif;simp
 have hcr:¬zT9 s t:=by rw[wY e b,g,hd];omega
 have i:dG s t=open Classical in if eX s t.1 then 1 else 0:=by
  obtain⟨e1,_,_⟩:=aM8 e b;unfold dG kQ;rw[Q5 (by rintro(h|h)<;>exact h Ag),Q5 H9,Q5 (λq=>d q.1)]
  by_cases h:eX s t.1
  ·rw[Q9 ⟨c,h⟩,Q9 h];rfl
  ·rw[Q5 (λq=>h q.2),Q5 h,Q9 (.inr (.inl c))]
   rfl
 rw[i];by_cases h:eX s t.1
 ·rw[Q9 h]
  refine⟨⟨λh=>Ah,?_⟩,⟨λ_=> .inl rfl,λ_=>⟨t.1, .inr (.inr (.inl rfl)),(a _).2 ⟨rfl,h⟩⟩⟩,⟨λh=>Ah,λh=>absurd h.2 hcr⟩⟩;grind
 ·exact KG
theorem bZ7{a b:Vc}(h:a≠b):dif b a≠(0,0):=by
 intro e;have d:b.1-a.1=0:=Rh Prod.fst e;have c:b.2-a.2=0:=Rh Prod.snd e
 exact h (Prod.ext Aa Aa)
theorem dR9{s t:Sg}(e:bI s)(f:bI t)(hd:xD s t=0)(j:s.1≠s.2)(l:t.1≠t.2)(n:xB s t≠0):bT6 s t (dG s t):=by
 obtain⟨a,b⟩:=jP.1 e;obtain⟨c,d⟩:=jP.1 f;obtain⟨k,x,y,z⟩:=vK s t
 have i:∀p,¬Com s t p:=by
  rintro p ⟨v,r⟩;have o:=((gZ e).1 v).2;have A:=((gZ f).1 r).2
  have e1:X (dif s.2 s.1) (dif p t.1)=0:=aL3 (w:=dif t.2 t.1) hd (by unfold X at*;rw[Int.mul_comm,Int.mul_comm (dif p t.1).2];omega) (bZ7 l)
  apply n;have m:X (dif s.2 s.1) (dif t.1 s.1)=X (dif s.2 s.1) (dif p s.1)-X (dif s.2 s.1) (dif p t.1):=C9;rw[k,o,e1]at m;omega
 have g:¬zT9 s t:=by rw[wY e f,hd];omega
 have u:dG s t=0:=by
  obtain⟨e1,_,_⟩:=aM8 e f;unfold dG kQ;rw[Q5 (by rintro(h|h)<;>exact h Ag),Q5 H9,Q5 (λq=>j q.1),Q5 (λq=>l q.1),Q9 (.inr (.inr (by rw[zH a b c,k,tC];omega)))]
  rfl
 rw[u];refine⟨⟨λh=>Ah,?_⟩,⟨?_,λh=>FY⟩,⟨λh=>Ah,λh=>absurd h.2 g⟩⟩
 ·simp_all
 ·rintro⟨p,_,j⟩
  exact absurd j (i p)
def co(w p:Vc):Int:=if w.2≠0 then p.2 else p.1
def onL(w o p:Vc):Prop:=X w (dif p o)=0
theorem xR{w o p q:Vc}(a:onL w o p)(b:onL w o q):w.1*(p.2-q.2)=w.2*(p.1-q.1):=by
 unfold onL X dif at*;simp only at*;grind
theorem bX1{w o p q:Vc}(hw:w≠(0,0))(a:onL w o p)(b:onL w o q)(h:co w p=co w q):p=q:=by
 have e:=xR a b;unfold co at h;by_cases h2:w.2=0
 ·rw[Q5 Ho,Q5 Ho]at h
  exact Py
 ·rw[Q9 h2,Q9 h2]at h
  rw[show p.2-q.2=0 from Aa,Int.mul_zero]at e;grind [Int.mul_eq_zero]
theorem aZ9{w o p q:Vc}(hw:w≠(0,0))(a:onL w o p)(b:onL w o q):kF p q↔co w p<co w q:=by
 rw[aG2];have e:=xR a b;unfold co;by_cases h2:w.2=0
 ·rw[Q5 Ho,Q5 Ho]
  exact Py
 ·rw[Q9 h2,Q9 h2]
  constructor
  ·rintro(h|⟨h,h'⟩)
   ·exact h
   ·rw[show p.2-q.2=0 from Aa,Int.mul_zero]at e
    rcases Int.mul_eq_zero.1 e.symm with e|e
    ·exact absurd e h2
    ·omega
  ·exact λh=> .inl h
theorem dE8{w o p q r:Vc}(i:w≠(0,0))(a:onL w o p)(m:onL w o q)(s:onL w o r):Bb (p,q) r↔min (co w p) (co w q)<=co w r/\co w r<=max (co w p) (co w q):=by
 have z:=xR s a;have C:=xR m a
 unfold Bb;simp only;by_cases h2:w.2=0
 ·have D:w.1≠0:=λA=>i (Prod.ext A h2)
  unfold co;rw[Q5 Ho,Q5 Ho,Q5 Ho];rw[h2,Int.zero_mul]at z C;grind [Int.mul_eq_zero]
 ·unfold co
  rw[Q9 h2,Q9 h2,Q9 h2];constructor
  ·rintro⟨_,_,f,b⟩;exact⟨f,b⟩
  ·rintro⟨f,b⟩
   have n:(q.2-p.2)*(r.1-p.1)=(r.2-p.2)*(q.1-p.1):=by
    have:w.2*((q.2-p.2)*(r.1-p.1)- (r.2-p.2)*(q.1-p.1))=0:=CP;grind [Int.mul_eq_zero]
   rcases Int.lt_trichotomy p.2 q.2 with t|g|y
   ·obtain⟨l,j⟩:=share (d:=q.2-p.2) (k:=r.2-p.2) (u:=p.1) (v:=q.1) (p:=r.1) Aa n Aa Aa;simp_all
   ·have c:p=q:=bX1 i a m (by unfold co;rw[Q9 h2,Q9 h2];exact g)
    have e:r=p:=bX1 i s a (by unfold co;rw[Q9 h2,Q9 h2];omega)
    subst e;subst c;omega
   ·obtain⟨l,j⟩:=share (d:=p.2-q.2) (k:=p.2-r.2) (u:=p.1) (v:=q.1) (p:=r.1) Aa (by
     have x:(p.2-q.2)*(r.1-p.1)= -((q.2-p.2)*(r.1-p.1)):=by rw[<-Int.neg_mul];congr 1;omega
     have B:(p.2-r.2)*(q.1-p.1)= -((r.2-p.2)*(q.1-p.1)):=by rw[<-Int.neg_mul];congr 1;omega
     rw[x,B,n]) Aa Aa
    exact⟨l,j,f,b⟩
theorem bS9{a b:Vc}:vcmp a b=0↔a=b:=by
 grind [vcmp,orI,cmpI]
theorem dD9{a b:Vc}:vcmp a b= -1↔kF a b:=by
 grind [gC8,kF]
theorem cE8{A B C D lo hi:Int}(b:lo=max (min A B) (min C D))(a:hi=min (max A B) (max C D))(x:Int):((min A B<=x/\x<=max A B)/\(min C D<=x/\x<=max C D))↔lo<=x/\x<=hi:=by
 omega
theorem eN9{A B C D lo:Int}(a:lo=max (min A B) (min C D)):lo=A\/lo=B\/lo=C\/lo=D:=Aa
theorem eL9{A B C D hi:Int}(a:hi=min (max A B) (max C D)):hi=A\/hi=B\/hi=C\/hi=D:=Aa
theorem eA6{s t:Sg}(hs:bI s)(ht:bI t)(hd:xD s t=0)(E:s.1≠s.2)(U:t.1≠t.2)(r:xB s t=0):bT6 s t (dG s t):=by
 obtain⟨a,b⟩:=jP.1 hs;obtain⟨c,d⟩:=jP.1 ht;obtain⟨O,W,x3,x4⟩:=vK s t;have hw:=bZ7 E;have la:onL (dif s.2 s.1) s.1 s.1:=by unfold onL X dif;simp
 have lb:onL (dif s.2 s.1) s.1 s.2:=EM;have lc:onL (dif s.2 s.1) s.1 t.1:=by unfold onL;rw[O,r];rfl
 have ld:onL (dif s.2 s.1) s.1 t.2:=by unfold onL;rw[W,r,hd];rfl
 have i:∀p,uH s t p->onL (dif s.2 s.1) s.1 p:=by
  rintro p (rfl|rfl|rfl|rfl)<;>assumption
 have lt':∀p,onL (dif s.2 s.1) s.1 p->X (dif t.2 t.1) (dif p t.1)=0:=λp hp=>JJ
 have Q:∀p,onL (dif s.2 s.1) s.1 p->(Com s t p↔(min (co (dif s.2 s.1) s.1) (co (dif s.2 s.1) s.2)<=co (dif s.2 s.1) p/\co (dif s.2 s.1) p<=max (co (dif s.2 s.1) s.1) (co (dif s.2 s.1) s.2))/\
  (min (co (dif s.2 s.1) t.1) (co (dif s.2 s.1) t.2)<=co (dif s.2 s.1) p/\co (dif s.2 s.1) p<=max (co (dif s.2 s.1) t.1) (co (dif s.2 s.1) t.2))):=λp hp=>by
  exact Oh
 have x:¬zT9 s t:=by rw[wY hs ht,r,hd];omega
 have f:∀(q:Sg),onL (dif s.2 s.1) s.1 q.1->onL (dif s.2 s.1) s.1 q.2->onL (dif s.2 s.1) s.1 (ordS q).1/\onL (dif s.2 s.1) s.1 (ordS q).2/\co (dif s.2 s.1) (ordS q).1=min (co (dif s.2 s.1) q.1) (co (dif s.2 s.1) q.2)/\co (dif s.2 s.1) (ordS q).2=max (co (dif s.2 s.1) q.1) (co (dif s.2 s.1) q.2):=λq n Y=>by
  have k:=aZ9 hw Y n;grind [cZ7,cY4]
 obtain⟨s1,s2,S,T⟩:=f s la lb;obtain⟨t1,t2,V,R⟩:=f t lc ld
 have J:onL (dif s.2 s.1) s.1 (hiLo (ordS s) (ordS t)).1/\onL (dif s.2 s.1) s.1 (hiLo (ordS s) (ordS t)).2/\co (dif s.2 s.1) (hiLo (ordS s) (ordS t)).1=max (co (dif s.2 s.1) (ordS s).1) (co (dif s.2 s.1) (ordS t).1)/\co (dif s.2 s.1) (hiLo (ordS s) (ordS t)).2=min (co (dif s.2 s.1) (ordS s).2) (co (dif s.2 s.1) (ordS t).2):=by
  have k1:=aZ9 hw s1 t1;have k2:=aZ9 hw t2 s2
  unfold hiLo;simp only;refine⟨?_,?_,?_,?_⟩
  ·split<;>assumption
  ·split<;>assumption
  ·split
   ·rename_i h;have:=k1.1 h;omega
   ·rename_i h
    have:¬co (dif s.2 s.1) (ordS s).1<co (dif s.2 s.1) (ordS t).1:=λq=>h (k1.2 q);omega
  ·split<;>grind
 have N:dG s t=(yD (hiLo (ordS s) (ordS t))).kind:=by
  obtain⟨e1,_,_⟩:=aM8 hs ht;unfold dG kQ;rw[Q5 (by rintro(h|h)<;>exact h Ag),Q5 H9,Q5 (λq=>E q.1),Q5 (λq=>U q.1),Q5]
  rintro(h|h|h)
  ·exact E h
  ·exact U h
  ·exact h (by rw[zH a b c,O,r];rfl)
 obtain⟨M,P,o,u⟩:=J;rw[S,V]at o;rw[T,R]at u
 have H:(co (dif s.2 s.1) (hiLo (ordS s) (ordS t)).1=co (dif s.2 s.1) (hiLo (ordS s) (ordS t)).2/\dG s t=1)\/(co (dif s.2 s.1) (hiLo (ordS s) (ordS t)).1<co (dif s.2 s.1) (hiLo (ordS s) (ordS t)).2/\dG s t=3)\/(co (dif s.2 s.1) (hiLo (ordS s) (ordS t)).2<co (dif s.2 s.1) (hiLo (ordS s) (ordS t)).1/\dG s t=0):=by
  rw[N];generalize hiLo (ordS s) (ordS t)=q at*;have k:=aZ9 hw M P;unfold yD;by_cases v:vcmp q.1 q.2=0
  ·rw[Q9 v]
   left;exact⟨by rw[bS9.1 v],rfl⟩
  ·rw[Q5 v]
   have aa:co (dif s.2 s.1) q.1≠co (dif s.2 s.1) q.2:=λh=>v (bS9.2 (bX1 hw M P h));by_cases n:vcmp q.1 q.2= -1
   ·simp_all [Q9,dD9]
   ·rw[Q5 n]
    right;right;have:¬co (dif s.2 s.1) q.1<co (dif s.2 s.1) q.2:=λh=>n (dD9.2 (k.2 h));exact⟨Aa,rfl⟩
 have g:=cE8 (A:=co (dif s.2 s.1) s.1) (B:=co (dif s.2 s.1) s.2) (C:=co (dif s.2 s.1) t.1) (D:=co (dif s.2 s.1) t.2) o u;have L:=eN9 (A:=co (dif s.2 s.1) s.1) (B:=co (dif s.2 s.1) s.2) (C:=co (dif s.2 s.1) t.1) (D:=co (dif s.2 s.1) t.2) o
 have F:=eL9 (A:=co (dif s.2 s.1) s.1) (B:=co (dif s.2 s.1) s.2) (C:=co (dif s.2 s.1) t.1) (D:=co (dif s.2 s.1) t.2) u;have m:∀p,onL (dif s.2 s.1) s.1 p->(Com s t p↔co (dif s.2 s.1) (hiLo (ordS s) (ordS t)).1<=co (dif s.2 s.1) p/\co (dif s.2 s.1) p<=co (dif s.2 s.1) (hiLo (ordS s) (ordS t)).2):=λp hp=>(Q p hp).trans (g _)
 clear Q g o u S T V R f N lt';generalize co (dif s.2 s.1) (hiLo (ordS s) (ordS t)).1=lo at*;generalize co (dif s.2 s.1) (hiLo (ordS s) (ordS t)).2=hi at*
 have j:∀z:Int,(z=co (dif s.2 s.1) s.1\/z=co (dif s.2 s.1) s.2\/z=co (dif s.2 s.1) t.1\/z=co (dif s.2 s.1) t.2)->∃p,uH s t p/\co (dif s.2 s.1) p=z:=by
  rintro z (h|h|h|h)
  ·exact⟨_, .inl rfl,h.symm⟩
  ·exact⟨_, .inr (.inl rfl),h.symm⟩
  ·exact⟨_, .inr (.inr (.inl rfl)),h.symm⟩
  ·exact⟨_, .inr (.inr (.inr rfl)),h.symm⟩
 obtain⟨pl,G,I⟩:=j _ L;obtain⟨ph,y,K⟩:=j _ F;have fl:=m _ (i _ G);have Z:=m _ (i _ y)
 rw[I]at fl;rw[K]at Z
 have l:(∃p,uH s t p/\Com s t p)↔dG s t=1\/dG s t=3:=by
  grind
 refine⟨⟨λh=>?_,?_⟩,l,⟨λh=>Aa,λh=>absurd h.2 x⟩⟩
 ·grind
 ·grind [bX1]
theorem tells{s t:Sg}(a:bI s)(b:bI t):bT6 s t (dG s t):=by
 grind [cW7,dA9,eA6,dR9,eK8]
def wR(a b c d:Int)(p:Vc):Prop:=a<p.1/\p.1<c/\b<p.2/\p.2<d
def wP(a b c d:Int)(p:Vc):Prop:=a<=p.1/\p.1<=c/\b<=p.2/\p.2<=d
theorem bJ0{p v:Vc}(b:Sm4 p)(a:Sm4 v):toP (p.1,p.2,1) v=dif p v:=by
 unfold Sm4 at*;unfold toP dif;simp only[Int.mul_one];grind [w_in]
theorem dF8{p:Vc}{e:Sg}(d:Sm4 p)(c:bI e):bV4 (p.1,p.2,1) e=X (dif e.2 e.1) (dif p e.1):=by
 obtain⟨a,b⟩:=jP.1 c;unfold bV4;rw[bJ0 d a];unfold Sm4 at*;rw[kN ⟨Aa,Aa⟩ ⟨Aa,Aa⟩];unfold dif;rw[iK ⟨Ar,Ar⟩ ⟨Ar,Ar⟩ ⟨Ar,Ar⟩ ⟨Ar,Ar⟩];rfl
theorem cC3{p:Vc}{e:Sg}(b:Sm4 p)(a:bI e):onE (p.1,p.2,1) e↔eX e p:=by
 grind [jP,gZ,dF8,bJ0,onE,Bb,dif]
def rayC(e:Sg)(p:Vc)(z:Int):Prop:=(e.1.2<=p.2/\p.2<e.2.2/\0<z)\/(e.2.2<=p.2/\p.2<e.1.2/\z<0)
theorem dD7{p:Vc}{e:Sg}(g:Sm4 p)(f:bI e)(i:¬eX e p):rW (p.1,p.2,1) e↔rayC e p (X (dif e.2 e.1) (dif p e.1)):=by
 obtain⟨a,b⟩:=jP.1 f;rw[gZ f]at i;unfold rW;rw[dF8 g f,bJ0 g a,bJ0 g b]
 have o:e.2.2<=p.2->p.2<e.1.2->X (dif e.2 e.1) (dif p e.1)≠0:=by
  intro r q c;apply i;refine⟨?_,c⟩;unfold X dif at c;simp only at c;obtain⟨s,n⟩:=share (d:=e.1.2-e.2.2) (k:=e.1.2-p.2) (u:=e.1.1) (v:=e.2.1) (p:=p.1) Aa CP Aa Aa;unfold Bb;omega
 generalize X (dif e.2 e.1) (dif p e.1)=z at*;unfold rayC dif;simp only;constructor
 ·omega
 ·rintro(⟨m,l,j⟩|⟨m,l,j⟩)
  ·omega
  ·exact⟨λh=>by have:=h.2 Aa;omega,λh=>Aa,λh=>Aa⟩
theorem pY{v:Vc}:within v 4000↔Sm4 v:=by
 rw[within_iff Aa];exact Rt
theorem bC7{p:Vc}(h:Sm4 p):wJ (p.1,p.2,1):=by
 unfold Sm4 at h;refine⟨⟨(by decide:(1:Int)<=1),(by decide:(1:Int)<=134217728),?_⟩,gcd_one _⟩
 show within (p.1,p.2) (W (4000*1));rw[show W (4000*1)=4000 from Ai];exact pY.2 h
theorem aE1{r:Rg}{i:Nat}(h:i<r.length):r.getD i z0∈r:=LG
theorem bA6{r:Rg}{i:Nat}(h:i<r.length):iU r i∈r:=aE1 (RV _ Aa)
theorem jO{r:Rg}(c:bR7 r){e:Sg}(b:e∈bF r):bI e:=by
 unfold bF at b;split at b
 ·cases b
 ·obtain⟨i,hi,rfl⟩:=QZ.1 b
  have a:=Sl.1 hi;have f:=c _ (aE1 a)
  have d:=c _ (bA6 a);rw[within_iff Aa]at f d;refine jP.2 ⟨?_,?_⟩
  ·show Sm4 (r.getD i z0);unfold Sm4;omega
  ·show Sm4 (iU r i);unfold Sm4;omega
theorem bC8{r:Rg}(b:3<=r.length){v:Vc}(hv:v∈r):∃e∈bF r,e.1=v:=by
 obtain⟨i,hi,a⟩:=List.mem_iff_getElem.1 hv;refine⟨aJ4 r i,?_,?_⟩
 ·unfold bF
  rw[Q5 Aa];exact Rq (Sl.2 hi)
 ·show r.getD i z0=v
  rw[RJ,QE hi,a];rfl
theorem yZ{p:Pt}:∀ {l:List Sg} {b:Bool},lU p l b=1↔∃e∈l,onE p e
 | [],b=>by rw[qB];cases b<;>simp
 |e::l,b=>by
  by_cases h:onE p e
  ·rw[oP h]
   exact⟨λ_=>⟨e,Ae,h⟩,λ_=>rfl⟩
  ·by_cases a:rW p e
   ·simp_all [rE,yZ,QO]
   ·simp_all [jD,yZ,QO]
theorem sgn(x y:Int):(0<x->0<y->0<x*y)/\(0<x->y<0->x*y<0)/\(x<0->0<y->x*y<0)/\(x<0->y<0->0<x*y)/\(x=0->x*y=0)/\(y=0->x*y=0):=
 ⟨Int.mul_pos,Int.mul_neg_of_pos_of_neg,Int.mul_neg_of_neg_of_pos,Int.mul_pos_of_neg_of_neg,λh=>by rw[h,Int.zero_mul],λh=>by rw[h,Int.mul_zero]⟩
def ray(e:Sg)(p:Vc):Prop:=rayC e p (X (dif e.2 e.1) (dif p e.1))
def inRt(p q z:Vc):Prop:=p.2<z.2/\z.2<=q.2/\X (dif q p) (dif z p)<0
def Sep(p q:Vc)(e:Sg):Prop:=
 (0<X (dif q p) (dif e.1 p)/\0<X (dif q p) (dif e.2 p))\/(X (dif q p) (dif e.1 p)<0/\X (dif q p) (dif e.2 p)<0)\/
 (0<X (dif e.2 e.1) (dif p e.1)/\0<X (dif e.2 e.1) (dif q e.1))\/(X (dif e.2 e.1) (dif p e.1)<0/\X (dif e.2 e.1) (dif q e.1)<0)\/
 (X (dif q p) (dif e.1 p)=0/\X (dif q p) (dif e.2 p)=0/\X (dif e.2 e.1) (dif p e.1)=0/\X (dif e.2 e.1) (dif q e.1)=0)
theorem fK2{w G:Int}(a:0<w):(0<G↔0<w*G)/\(G<0↔w*G<0):=by
 have s:=sgn w G;generalize w*G=m at*;omega
theorem eB3{w a b Sc Sd d c:Int}(e:0<w)(g:w*d=a*Sd-b*Sc)(f:w*c=(a-w)*Sd- (b-w)*Sc)
 (k:(0<Sc/\0<Sd)\/(Sc<0/\Sd<0)\/(0<d/\0<c)\/(d<0/\c<0)\/(Sc=0/\Sd=0/\d=0/\c=0)):
 ((((a<=0/\0<b/\0<d)\/(b<=0/\0<a/\d<0))↔((a<=w/\w<b/\0<c)\/(b<=w/\w<a/\c<0)))↔((0<a/\a<=w/\Sc<0)↔(0<b/\b<=w/\Sd<0))):=by
 have m:=fK2 (G:=d) e;have l:=fK2 (G:=c) e
 rw[g]at m;rw[f]at l;clear g f;have hz:a-w<0\/a-w=0\/0<a-w:=Aa;have hy:b-w<0\/b-w=0\/0<b-w:=Aa
 rcases k with⟨hSc,hSd⟩|⟨hSc,hSd⟩|⟨j,i⟩|⟨j,i⟩|⟨j,i,o,n⟩
 ·exact IB
 ·exact IB
 ·exact IA
 ·exact IA
 ·omega
theorem ids(p q c d:Vc):(q.2-p.2)*X (dif d c) (dif p c)=(c.2-p.2)*X (dif q p) (dif d p)- (d.2-p.2)*X (dif q p) (dif c p)/\
 (q.2-p.2)*X (dif d c) (dif q c)=(c.2-p.2- (q.2-p.2))*X (dif q p) (dif d p)- (d.2-p.2- (q.2-p.2))*X (dif q p) (dif c p):=by
 unfold X dif;simp only;constructor<;>grind
theorem eT3{p q:Vc}{e:Sg}(g:p.2<=q.2)(h:Sep p q e):(ray e p↔ray e q)↔(inRt p q e.1↔inRt p q e.2):=by
 obtain⟨c,d⟩:=e;obtain⟨l,j⟩:=ids p q c d;unfold Sep at h;unfold ray rayC inRt;simp only at*;by_cases i:p.2=q.2
 ·have f:∀z:Vc,X (dif q p) (dif z p)=(q.1-p.1)*(z.2-p.2):=λz=>by unfold X dif;simp only;rw[i];simp
  rw[f,f]at h;have m:=sgn (q.1-p.1) (c.2-p.2);have n:=sgn (q.1-p.1) (d.2-p.2)
  grind
 ·have k:=eB3 (w:=q.2-p.2) (a:=c.2-p.2) (b:=d.2-p.2) Aa l j h
  generalize X (dif d c) (dif p c)=o at*;grind
theorem dW0{p q:Vc}{e:Sg}(h:Sep p q e):Sep q p e:=by
 have a:∀z:Vc,X (dif p q) (dif z q)= -X (dif q p) (dif z p):=λz=>C9;unfold Sep at*;rw[a,a];omega
structure Onp(N k:Int)(c d z:Vc):Prop where
 pos:0<N
 lo:0<=k
 hi:k<=N
 e1:N*(z.1-c.1)=k*(d.1-c.1)
 e2:N*(z.2-c.2)=k*(d.2-c.2)
theorem eN3{N:Int}{c d z:Vc}(h:Onp N N c d z):z=d:=by
 have b:=Int.eq_of_mul_eq_mul_left (by have:=h.pos;omega) h.e1
 have a:=Int.eq_of_mul_eq_mul_left (by have:=h.pos;omega) h.e2
 exact Prod.ext Aa Aa
theorem dI1{N m x y:Int}(d:0<N)(b:0<m)(h:N*x=m*y):(0<y->0<x)/\(y<0->x<0)/\(y=0->x=0):=by
 have c:=sgn N x;have a:=sgn m y
 rw[<-h]at a;generalize N*x=t at*;omega
theorem eT5{N m k x y z:Int}(d:0<N)(a:0<m)(b:0<=k)(h:N*x=m*y+k*z):(0<y->0<z->0<x)/\(y<0->z<0->x<0)/\(y=0->z=0->x=0):=by
 have c:=sgn N x;have f:=sgn m y
 have e:=sgn k z;grind
theorem eL1{N k:Int}{c d z:Vc}{e:Sg}(l:Onp N k c d z)(o:k<N)(h:Sep c d e):Sep z d e:=by
 obtain⟨f,b,_,i,j⟩:=l
 have a:∀u:Vc,N*X (dif d z) (dif u z)=(N-k)*X (dif d c) (dif u c):=λu=>by
  unfold X dif;simp only;grind
 have g:N*X (dif e.2 e.1) (dif z e.1)=(N-k)*X (dif e.2 e.1) (dif c e.1)+k*X (dif e.2 e.1) (dif d e.1):=by
  unfold X dif;simp only;grind
 have q:=dI1 f Aa (a e.1);have n:=dI1 f Aa (a e.2)
 have m:=eT5 f Aa b g;clear a g i j;unfold Sep at*;omega
theorem rC{s t:Sg}(f:bI s)(i:bI t)(e:s.1≠s.2)(h:dG s t=0):Sep s.1 s.2 t:=by
 obtain⟨d,a,b,c⟩:=vK s t;unfold Sep;rw[d,a,b,c];by_cases g:xD s t=0
 ·omega
 ·grind [dI7,uJ]
section
variable{α β:Type}
def xr(l:List α)(f:α->Bool):Bool:=l.foldr (λx b=>f x^^b) false
theorem fD4(f:α->Bool):xr [] f=false:=rfl
theorem nS(x:α)(l:List α)(f:α->Bool):xr (x::l) f=(f x^^xr l f):=rfl
theorem cY7(f:α->Bool):∀l m:List α,xr (l++m) f=(xr l f^^xr m f)
 | [],m=>by rw[TM,fD4];cases xr m f<;>rfl
 |x::l,m=>by
  rw[TU,nS,nS,cY7 f l m];cases f x<;>cases xr l f<;>cases xr m f<;>rfl
theorem jF{f g:α->Bool}:∀ {l:List α},(∀x∈l,f x=g x)->xr l f=xr l g
 | [],_=>rfl
 |x::l,h=>by rw[nS,nS,h x (by simp),jF (λy a=>h y (by simp[a]))]
theorem aD0:∀l:List α,xr l (λ_=>false)=false
 | [] =>rfl
 |x::l=>by rw[nS,aD0 l];rfl
theorem cA9(f g:α->Bool):∀l:List α,xr l (λx=>f x^^g x)=(xr l f^^xr l g)
 | [] =>rfl
 |x::l=>by
  rw[nS,nS,nS,cA9 f g l];cases f x<;>cases g x<;>cases xr l f<;>cases xr l g<;>rfl
theorem bW6(c:Bool)(f:α->Bool)(l:List α):xr l (λx=>c&&f x)=(c&&xr l f):=by
 cases c
 ·exact aD0 l
 ·exact jF (λx _=>Bool.true_and _)
theorem dI9(f:α->β->Bool)(m:List β):∀l:List α,xr l (λx=>xr m (f x))=xr m (λy=>xr l (λx=>f x y))
 | [] =>(aD0 m).symm
 |x::l=>by
  rw[nS,dI9 f m l,<-cA9];grind [jF,nS]
theorem cW9(g:β->α)(f:α->Bool):∀l:List β,xr (l.map g) f=xr l (λx=>f (g x))
 | [] =>rfl
 |x::l=>by rw[QW,nS,nS,cW9 g f l]
end
def par(p:Vc)(l:List Sg):Bool:=xr l (λe=>decB (ray e p))
theorem dZ6{p q:Prop}(h:p↔q):decB p=decB q:=fQ h
theorem fA6{p q:Vc}{e:Sg}(a:p.2<=q.2)(h:Sep p q e):(decB (ray e p)^^decB (ray e q))=(decB (inRt p q e.1)^^decB (inRt p q e.2)):=by
 have k:=eT3 a h;grind
def dD(v:Nat->Vc)(n:Nat):List Sg:=(List.range n).map λi=>(v (i% n),v ((i+1)% n))
theorem dL9:∀a b c d x y z:Bool,(a^^b)=(x^^y)->(c^^d)=(y^^z)->((a^^c)^^(b^^d))=(x^^z):=Ai
theorem cF0{p q:Vc}(a:p.2<=q.2)(u:Nat->Vc):∀k,(∀i,i<k->Sep p q (u i,u (i+1)))->
 (par p ((List.range k).map λi=>(u i,u (i+1)))^^par q ((List.range k).map λi=>(u i,u (i+1))))=(decB (inRt p q (u 0))^^decB (inRt p q (u k)))
 |0,_=>by
  show(false^^false)=_;cases decB (inRt p q (u 0))<;>rfl
 |k+1,h=>by
  have c:=cF0 a u k (λi hi=>h i Aa);have b:=fA6 a (h k Aa)
  rw[List.range_succ,Rl];unfold par at*;rw[cY7,cY7];refine dL9 _ _ _ _ _ _ _ c ?_;rw[<-b];show(((decB (ray (u k,u (k+1)) p))^^false)^^((decB (ray (u k,u (k+1)) q))^^false))=_;rw[Bool.xor_false,Bool.xor_false]
theorem eN7:∀a b c:Bool,(a^^b)=(c^^c)->a=b:=Ai
theorem eE9{p q:Vc}(a:p.2<=q.2)(v:Nat->Vc)(n:Nat)(h:∀e∈dD v n,Sep p q e):par p (dD v n)=par q (dD v n):=by
 have k:=cF0 a (λi=>v (i% n)) n (λi hi=>h _ (QZ.2 ⟨i,Sl.2 hi,rfl⟩));have e:v (n% n)=v (0% n):=by rw[Nat.mod_self,Nat.zero_mod]
 simp only[e]at k;exact eN7 _ _ _ k
theorem dT7{p q:Vc}(v:Nat->Vc)(n:Nat)(h:∀e∈dD v n,Sep p q e):par p (dD v n)=par q (dD v n):=by
 grind [Int.le_total,eE9,dW0]
def mulV(N:Int)(v:Vc):Vc:=(N*v.1,N*v.2)
def mulS(N:Int)(e:Sg):Sg:=(mulV N e.1,mulV N e.2)
theorem bQ3(N:Int)(v:Nat->Vc)(n:Nat):dD (λi=>mulV N (v i)) n=(dD v n).map (mulS N):=by
 unfold dD;rw[Uc];rfl
theorem cG9(N:Int)(a b c d:Vc):X (dif (mulV N a) (mulV N b)) (dif (mulV N c) (mulV N d))=N*N*X (dif a b) (dif c d):=by
 unfold X dif mulV;simp only;grind
theorem sq_pos{N:Int}(a:0<N):0<N*N:=Int.mul_pos a a
theorem aM0{N x y:Int}(a:0<N)(h:y=N*x):(0<y↔0<x)/\(y<0↔x<0)/\(y=0↔x=0):=by
 have s:=sgn N x;rw[<-h]at s;omega
theorem le_mul{N a b:Int}(c:0<N):(N*a<=N*b↔a<=b)/\(N*a<N*b↔a<b):=
 ⟨⟨λh=>Int.le_of_mul_le_mul_left h c,λh=>Int.mul_le_mul_of_nonneg_left h Aa⟩,⟨λh=>Int.lt_of_mul_lt_mul_left h Aa,λh=>Int.mul_lt_mul_of_pos_left h c⟩⟩
theorem eL6{N:Int}(a:0<N)(e:Sg)(p:Vc):ray (mulS N e) (mulV N p)↔ray e p:=by
 unfold ray rayC;have k:=aM0 (sq_pos a) (cG9 N e.2 e.1 p e.1);show(N*e.1.2<=N*p.2/\N*p.2<N*e.2.2/\0<X (dif (mulV N e.2) (mulV N e.1)) (dif (mulV N p) (mulV N e.1)))\/(N*e.2.2<=N*p.2/\N*p.2<N*e.1.2/\X (dif (mulV N e.2) (mulV N e.1)) (dif (mulV N p) (mulV N e.1))<0)↔_;simp_all
theorem dD0{N:Int}(a:0<N)(p:Vc)(l:List Sg):par (mulV N p) (l.map (mulS N))=par p l:=by
 grind [cW9,jF,dZ6,eL6,par]
theorem eQ5{N:Int}(a:0<N){p q:Vc}{e:Sg}(h:Sep p q e):Sep (mulV N p) (mulV N q) (mulS N e):=by
 have f:=aM0 (sq_pos a) (cG9 N q p e.1 p);have b:=aM0 (sq_pos a) (cG9 N q p e.2 p)
 have d:=aM0 (sq_pos a) (cG9 N e.2 e.1 p e.1);have c:=aM0 (sq_pos a) (cG9 N e.2 e.1 q e.1)
 grind [Sep,mulS]
theorem cE3{N M k:Int}(f:0<M){c d z:Vc}(v:Nat->Vc)(n:Nat)(a:Onp N k (mulV M c) (mulV M d) z)(h:∀e∈dD v n,Sep c d e):
 par z ((dD v n).map (mulS M))=par d (dD v n):=by
 by_cases i:k=N
 ·subst i
  rw[eN3 a,dD0 f]
 ·rw[<-dD0 f d,<-bQ3]
  refine dT7 _ n (λe g=>?_);rw[bQ3]at g;obtain⟨j,b,rfl⟩:=QZ.1 g;exact eL1 a (by have:=a.hi;omega) (eQ5 f (h j b))
theorem aN8(v:Vc):mulV 1 v=v:=by unfold mulV;rw[Int.one_mul,Int.one_mul]
theorem eD5(e:Sg):mulS 1 e=e:=by unfold mulS;rw[aN8,aN8]
theorem eY9{N k:Int}{c d z:Vc}(v:Nat->Vc)(n:Nat)(a:Onp N k c d z)(h:∀e∈dD v n,Sep c d e):
 par z (dD v n)=par d (dD v n):=by
 have e:(dD v n).map (mulS 1)=dD v n:=by
  grind [List.map_id,SE,eD5,dD]
 have:=cE3 (M:=1) Ai v n (by rw[aN8,aN8];exact a) h
 rw[e]at this;exact this
theorem dH1{p:Vc}{l:List Sg}(h:∀e∈l,e.1.2<=p.2/\e.2.2<=p.2):par p l=false:=by
 grind [aD0,jF,dW,par,ray,rayC]
def mZ(e:Sg)(h:Int):Prop:=(e.1.2<=h/\h<e.2.2)\/(e.2.2<=h/\h<e.1.2)
def pN(e:Sg):Int:=if e.1.2<e.2.2 then e.2.2-e.1.2 else e.1.2-e.2.2
def pK(e:Sg)(h:Int):Int:=if e.1.2<e.2.2 then h-e.1.2 else e.1.2-h
def pX(e:Sg)(h:Int):Int:=pN e*e.1.1+pK e h*(e.2.1-e.1.1)
theorem aO5{e:Sg}{h:Int}(a:mZ e h):0<pN e/\0<=pK e h/\pK e h<=pN e/\pN e*(h-e.1.2)=pK e h*(e.2.2-e.1.2):=by
 unfold mZ at a;unfold pN pK;grind
theorem aQ3{e:Sg}{p:Vc}:ray e p↔mZ e p.2/\pN e*p.1<pX e p.2:=by
 unfold ray rayC mZ pX pN pK;by_cases h:e.1.2<e.2.2
 ·rw[Q9 h,Q9 h]
  have k:X (dif e.2 e.1) (dif p e.1)=(e.2.2-e.1.2)*e.1.1+(p.2-e.1.2)*(e.2.1-e.1.1)- (e.2.2-e.1.2)*p.1:=C9;omega
 ·rw[Q5 h,Q5 h]
  have k:X (dif e.2 e.1) (dif p e.1)=(e.1.2-e.2.2)*p.1- ((e.1.2-e.2.2)*e.1.1+(e.1.2-p.2)*(e.2.1-e.1.1)):=C9;omega
def aft(h:Int)(f g:Sg):Prop:=mZ g h/\pN g*pX f h<pN f*pX g h
theorem dU4{N:Int}(a:0<N)(e:Sg):pN (mulS N e)=N*pN e:=by
 unfold pN mulS mulV;exact OW
theorem eZ8{N:Int}(a:0<N)(e:Sg)(h:Int):pK (mulS N e) (N*h)=N*pK e h:=by
 unfold pK mulS mulV;exact OW
theorem eZ5{N:Int}(a:0<N)(e:Sg)(h:Int):pX (mulS N e) (N*h)=N*(N*pX e h):=by
 grind [dU4,eZ8,pX,mulS,mulV]
theorem dK4{N:Int}(a:0<N)(e:Sg)(h:Int):mZ (mulS N e) (N*h)↔mZ e h:=by
 unfold mZ mulS mulV;simp_all
def pZ(f:Sg)(h:Int):Vc:=(pX f h,pN f*h)
theorem eQ0{h:Int}{f g:Sg}(a:mZ f h):ray (mulS (pN f) g) (pZ f h)↔aft h f g:=by
 have b:=(aO5 a).1;simp_all [aQ3,dK4,dU4,eZ5,Int.mul_assoc,le_mul,pZ,aft]
theorem pZ_on{h:Int}{f:Sg}(b:mZ f h):Onp (pN f) (pK f h) (mulV (pN f) f.1) (mulV (pN f) f.2) (pZ f h):=by
 obtain⟨d,a,c,e⟩:=aO5 b;refine⟨d,a,c,?_,?_⟩
 ·unfold mulV pZ pX;simp only;grind
 ·grind [Int.mul_sub,Int.mul_assoc,Int.mul_comm,mulV,pZ,pN]
theorem dC1{h:Int}{f:Sg}(a:mZ f h)(v:Nat->Vc)(n:Nat)(b:∀g∈dD v n,Sep f.1 f.2 g):
 xr (dD v n) (λg=>decB (aft h f g))=par f.2 (dD v n):=by
 rw[<-cE3 (aO5 a).1 v n (pZ_on a) b];grind [cW9,jF,dZ6,eQ0,par]
theorem dJ0{m k y z:Int}(a:0<=m)(c:0<=k)(b:0<m+k)(h:m*y+k*z=0):¬(0<y/\0<z)/\¬(y<0/\z<0):=by
 have d:=sgn m y;have e:=sgn k z
 grind
theorem fB7{h:Int}{f g:Sg}(j:bI f)(i:bI g)(c:mZ f h)(e:mZ g h)(F:dG f g=0):pN g*pX f h≠pN f*pX g h:=by
 intro O;obtain⟨B,N,P,Q⟩:=aO5 c;obtain⟨A,y,R,T⟩:=aO5 e
 have m:f.1≠f.2:=by
  intro q;unfold mZ at c;rw[q]at c;omega
 have l:g.1≠g.2:=by
  intro q;unfold mZ at e;rw[q]at e;omega
 have G:=rC j i m F;unfold pX at O
 have x:(pN g-pK g h)*X (dif f.2 f.1) (dif g.1 f.1)+pK g h*X (dif f.2 f.1) (dif g.2 f.1)=0:=by
  have:pN f*((pN g-pK g h)*X (dif f.2 f.1) (dif g.1 f.1)+pK g h*X (dif f.2 f.1) (dif g.2 f.1))=0:=by
   unfold X dif;simp only;grind
  grind [Int.mul_eq_zero]
 have I:(pN f-pK f h)*X (dif g.2 g.1) (dif f.1 g.1)+pK f h*X (dif g.2 g.1) (dif f.2 g.1)=0:=by
  have:pN g*((pN f-pK f h)*X (dif g.2 g.1) (dif f.1 g.1)+pK f h*X (dif g.2 g.1) (dif f.2 g.1))=0:=by
   unfold X dif;simp only;grind
  grind [Int.mul_eq_zero]
 have s:=dJ0 Aa y Aa x;have r:=dJ0 Aa N Aa I
 rcases G with q|q|q|q|⟨H,E,w,K⟩
 ·exact s.1 q
 ·exact s.2 q
 ·exact r.1 q
 ·exact r.2 q
 have key:∃p,uH f g p/\Com f g p:=by
  have b:∀p:Vc,X (dif f.2 f.1) (dif p f.1)=0->min f.1.2 f.2.2<=p.2->p.2<=h->eX f p:=λp hx C J=>by
   rw[gZ j];refine⟨(nO (d:=pN f) (k:=pK f p.2) (u:=f.1) (v:=f.2) (p:=p) B ?_ ?_ m).2 ?_,hx⟩
   ·unfold mZ at c
    exact Qd
   ·unfold mZ at c
    unfold pN pK;split<;>grind
   ·unfold mZ at c
    unfold pN pK;split<;>omega
  have a:∀p:Vc,X (dif g.2 g.1) (dif p g.1)=0->min g.1.2 g.2.2<=p.2->p.2<=h->eX g p:=λp hx C J=>by
   rw[gZ i];refine⟨(nO (d:=pN g) (k:=pK g p.2) (u:=g.1) (v:=g.2) (p:=p) A ?_ ?_ l).2 ?_,hx⟩
   ·unfold mZ at e
    exact Qd
   ·unfold mZ at e
    unfold pN pK;split<;>grind
   ·unfold mZ at e
    unfold pN pK;split<;>omega
  have z:X (dif f.2 f.1) (dif f.1 f.1)=0:=by unfold X dif;simp
  have t:X (dif f.2 f.1) (dif f.2 f.1)=0:=Fq;have M:X (dif g.2 g.1) (dif g.1 g.1)=0:=by unfold X dif;simp
  have L:X (dif g.2 g.1) (dif g.2 g.1)=0:=Fq;have n:=c
  have o:=e;unfold mZ at n o;by_cases S:min g.1.2 g.2.2<=min f.1.2 f.2.2
  ·by_cases D:f.1.2<f.2.2
   ·exact⟨f.1, .inl rfl,b _ z Aa Aa,a _ w Aa Aa⟩
   ·exact⟨f.2, .inr (.inl rfl),b _ t Aa Aa,a _ K Aa Aa⟩
  ·by_cases D:g.1.2<g.2.2
   ·exact⟨g.1, .inr (.inr (.inl rfl)),b _ H Aa Aa,a _ M Aa Aa⟩
   ·exact⟨g.2, .inr (.inr (.inr rfl)),b _ E Aa Aa,a _ L Aa Aa⟩
 have:=(tells j i).touch.1 key;omega
theorem bool_split(a b x y:Bool)(h:a=true->b=true->(x^^y)=true):(a&&b)=((a&& (b&&x))^^(b&& (a&&y))):=by
 grind
theorem aH5{a b c n m k:Int}(i:0<n)(d:0<m)(f:n*a<b)(j:m*b<n*c):m*a<c:=by
 have g:m*(n*a)<m*b:=Int.mul_lt_mul_of_pos_left f d;have e:n*(m*a)<n*c:=by rw[Int.mul_left_comm];omega
 exact Int.lt_of_mul_lt_mul_left e Aa
theorem cT7{p:Vc}{a vh:Nat->Vc}{b nh:Nat}(j:∀g∈dD a b,bI g)(l:∀f∈dD vh nh,bI f)
 (t:∀f∈dD vh nh,∀g∈dD a b,dG f g=0/\dG g f=0)(u:∀f∈dD vh nh,f.1≠f.2)(r:∀g∈dD a b,g.1≠g.2)
 (v:∀f∈dD vh nh,par f.2 (dD a b)=true)(m:∀g∈dD a b,par g.2 (dD vh nh)=false)
 (w:par p (dD vh nh)=true):par p (dD a b)=true:=by
 have C:∀f∈dD vh nh,decB (ray f p)=true->xr (dD a b) (λg=>decB (ray g p)&&decB (aft p.2 f g))=true:=λf c i=>by
  rw[dH,aQ3]at i;rw[<-v f c,<-dC1 i.1 a b (λg d=>rC (l f c) (j g d) (u f c) (t f c g d).1)];refine jF (λg d=>?_);by_cases e:aft p.2 f g
  ·have:ray g p:=aQ3.2 ⟨e.1,aH5 (k:=0) (aO5 i.1).1 (aO5 e.1).1 i.2 e.2⟩
   rw[dH.2 e,dH.2 this];rfl
  ·rw[dW.2 e,Bool.and_false]
 have B:∀g∈dD a b,decB (ray g p)=true->xr (dD vh nh) (λf=>decB (ray f p)&&decB (aft p.2 g f))=false:=λg d i=>by
  rw[dH,aQ3]at i;rw[<-m g d,<-dC1 i.1 vh nh (λf c=>rC (j g d) (l f c) (r g d) (t f c g d).2)];refine jF (λf c=>?_);by_cases e:aft p.2 g f
  ·have:ray f p:=aQ3.2 ⟨e.1,aH5 (k:=0) (aO5 i.1).1 (aO5 e.1).1 i.2 e.2⟩
   rw[dH.2 e,dH.2 this];rfl
  ·rw[dW.2 e,Bool.and_false]
 have z:∀f∈dD vh nh,∀g∈dD a b,decB (ray f p)=true->decB (ray g p)=true->(decB (aft p.2 f g)^^decB (aft p.2 g f))=true:=λf c g d n o=>by
  rw[dH,aQ3]at n o;have y:=fB7 (l f c) (j g d) n.1 o.1 (t f c g d).1;by_cases s:pN g*pX f p.2<pN f*pX g p.2
  ·grind [dH,dW,aft]
  ·rw[dW.2 (show¬aft p.2 f g from λq=>s q.2),dH.2 (show aft p.2 g f from⟨n.1,Aa⟩)];rfl
 have n:xr (dD vh nh) (λf=>xr (dD a b) (λg=>decB (ray f p)&&decB (ray g p)))=par p (dD a b):=by
  rw[jF (g:=λf=>decB (ray f p)&&par p (dD a b)) (λf _=>bW6 _ _ _)];rw[jF (g:=λf=>par p (dD a b)&&decB (ray f p)) (λf _=>Bool.and_comm _ _),bW6];show(par p (dD a b)&&par p (dD vh nh))=_;rw[w,Bool.and_true]
 have o:xr (dD vh nh) (λf=>xr (dD a b) (λg=>decB (ray f p)&&decB (ray g p)))=
  (xr (dD vh nh) (λf=>xr (dD a b) (λg=>decB (ray f p)&& (decB (ray g p)&&decB (aft p.2 f g))))^^xr (dD vh nh) (λf=>xr (dD a b) (λg=>decB (ray g p)&& (decB (ray f p)&&decB (aft p.2 g f))))):=by
  rw[<-cA9];refine jF (λf c=>?_);rw[<-cA9];exact jF (λg d=>bool_split _ _ _ _ (z f c g d))
 have A:xr (dD vh nh) (λf=>xr (dD a b) (λg=>decB (ray f p)&& (decB (ray g p)&&decB (aft p.2 f g))))=true:=by
  rw[jF (g:=λf=>decB (ray f p)) (λf c=>?_)]
  ·exact w
  ·simp_all [bW6]
 have x:xr (dD vh nh) (λf=>xr (dD a b) (λg=>decB (ray g p)&& (decB (ray f p)&&decB (aft p.2 g f))))=false:=by
  rw[dI9,<-aD0 (dD a b)];refine jF (λg d=>?_);simp_all [bW6]
 rw[A,x]at o;rw[<-n,o];rfl
theorem eW1{c d v:Vc}(a:c≠d)(e:Bb (c,d) v)(b:X (dif d c) (dif v c)=0):∃N k,Onp N k c d v:=by
 unfold Bb at e;unfold X dif at b;simp only at e b;by_cases g:c.1=d.1
 ·have j:c.2≠d.2:=λh=>a (Prod.ext g h)
  have i:v.1=c.1:=Aa;by_cases f:c.2<d.2
  ·exact⟨d.2-c.2,v.2-c.2,Aa,Aa,Aa,Ea,Int.mul_comm _ _⟩
  ·exact⟨c.2-d.2,c.2-v.2,Aa,Aa,Aa,Ea,CP⟩
 ·by_cases f:c.1<d.1
  ·exact⟨d.1-c.1,v.1-c.1,Aa,Aa,Aa,Int.mul_comm _ _,CP⟩
  ·exact⟨c.1-d.1,c.1-v.1,Aa,Aa,Aa,CP,CP⟩
theorem cX7{s:Sg}(b:bI s)(a:s.1≠s.2){v:Vc}(h:eX s v):∃N k,Onp N k s.1 s.2 v:=by
 grind [gZ,eW1]
theorem eP6{s t:Sg}(hs:bI s)(ht:bI t)(i:s.1≠s.2)(l:t.1≠t.2)(hd:xD s t=0)(b:xB s t=0){v:Vc}(hv:Com s t v):∃p,uH s t p/\Com s t p:=by
 obtain⟨f,c,j,k⟩:=vK s t;have hw:=bZ7 i;have la:onL (dif s.2 s.1) s.1 s.1:=by unfold onL X dif;simp
 have lb:onL (dif s.2 s.1) s.1 s.2:=EM;have lc:onL (dif s.2 s.1) s.1 t.1:=by unfold onL;rw[f,b];rfl
 have ld:onL (dif s.2 s.1) s.1 t.2:=by unfold onL;rw[c,b,hd];rfl
 have d:onL (dif s.2 s.1) s.1 v:=((gZ hs).1 hv.1).2;have lt':∀p,onL (dif s.2 s.1) s.1 p->X (dif t.2 t.1) (dif p t.1)=0:=λp hp=>JJ
 have a:∀p,onL (dif s.2 s.1) s.1 p->(Com s t p↔(min (co (dif s.2 s.1) s.1) (co (dif s.2 s.1) s.2)<=co (dif s.2 s.1) p/\co (dif s.2 s.1) p<=max (co (dif s.2 s.1) s.1) (co (dif s.2 s.1) s.2))/\
  (min (co (dif s.2 s.1) t.1) (co (dif s.2 s.1) t.2)<=co (dif s.2 s.1) p/\co (dif s.2 s.1) p<=max (co (dif s.2 s.1) t.1) (co (dif s.2 s.1) t.2))):=λp hp=>by
  exact Oh
 have g:=(a v d).1 hv;generalize co (dif s.2 s.1) v=y at*;rcases(show(co (dif s.2 s.1) s.1=max (min (co (dif s.2 s.1) s.1) (co (dif s.2 s.1) s.2)) (min (co (dif s.2 s.1) t.1) (co (dif s.2 s.1) t.2)))\/(co (dif s.2 s.1) s.2=max (min (co (dif s.2 s.1) s.1) (co (dif s.2 s.1) s.2)) (min (co (dif s.2 s.1) t.1) (co (dif s.2 s.1) t.2)))\/(co (dif s.2 s.1) t.1=max (min (co (dif s.2 s.1) s.1) (co (dif s.2 s.1) s.2)) (min (co (dif s.2 s.1) t.1) (co (dif s.2 s.1) t.2)))\/(co (dif s.2 s.1) t.2=max (min (co (dif s.2 s.1) s.1) (co (dif s.2 s.1) s.2)) (min (co (dif s.2 s.1) t.1) (co (dif s.2 s.1) t.2))) from Aa)with h|h|h|h
 ·exact⟨s.1, .inl rfl,(a _ la).2 Aa⟩
 ·exact⟨s.2, .inr (.inl rfl),(a _ lb).2 Aa⟩
 ·exact⟨t.1, .inr (.inr (.inl rfl)),(a _ lc).2 Aa⟩
 ·exact⟨t.2, .inr (.inr (.inr rfl)),(a _ ld).2 Aa⟩
theorem eK6{N k:Int}{c d v:Vc}(h:Onp N k c d v)(u w:Vc):(0<X u (dif c w)->0<X u (dif d w)->0<X u (dif v w))/\(X u (dif c w)<0->X u (dif d w)<0->X u (dif v w)<0):=by
 obtain⟨m,l,b,f,a⟩:=h;have e:N*X u (dif v w)=(N-k)*X u (dif c w)+k*X u (dif d w):=C9;have g:=sgn N (X u (dif v w))
 have i:=sgn (N-k) (X u (dif c w));have j:=sgn k (X u (dif d w))
 grind
theorem eZ7{s t:Sg}(c:bI s)(d:bI t)(e:s.1≠s.2)(i:t.1≠t.2)(l:dG s t=0){v:Vc}(a:eX s v)(b:eX t v):False:=by
 obtain⟨N,k,n⟩:=cX7 c e a;obtain⟨M,j,m⟩:=cX7 d i b;have r:=((gZ c).1 a).2;have y:=((gZ d).1 b).2
 have g:=eK6 m (dif s.2 s.1) s.1;have f:=eK6 n (dif t.2 t.1) t.1
 rcases rC c d e l with q|q|q|q|q
 ·have:=g.1 q.1 q.2;omega
 ·have:=g.2 q.1 q.2;omega
 ·have:=f.1 q.1 q.2;omega
 ·have:=f.2 q.1 q.2;omega
 ·obtain⟨x,o,u,w⟩:=vK s t
  have:=(tells c d).touch.1 (eP6 c d e i Aa Aa ⟨a,b⟩);omega
theorem dM4{s t:Sg}:dG s t=0\/dG s t=1\/dG s t=2\/dG s t=3:=by
 unfold dG kQ;split
 ·exact .inl rfl
 ·split
  ·unfold lines
   simp only;split
   ·exact .inl rfl
   ·grind [aH6]
  ·split
   ·exact .inr (.inl rfl)
   ·split
    ·exact .inr (.inl rfl)
    ·split
     ·exact .inl rfl
     ·unfold yD
      split
      ·exact .inr (.inl rfl)
      ·split
       ·exact .inr (.inr (.inr rfl))
       ·exact .inl rfl
theorem eD0{s t:Sg}{p:Vc}:uH s t p/\Com s t p↔uH t s p/\Com t s p:=by
 unfold uH Com;constructor
 ·grind
 ·grind
theorem bS4{s t:Sg}(b:bI s)(c:bI t):dG s t=0↔(¬∃p,uH s t p/\Com s t p)/\¬zT9 s t:=by
 have h:=tells b c;have hv:=dM4 (s:=s) (t:=t)
 constructor
 ·intro f
  have e:¬∃p,uH s t p/\Com s t p:=λq=>by have:=h.touch.1 q;omega
  exact⟨e,λq=>by have:=h.cross.2 ⟨e,q⟩;omega⟩
 ·rintro⟨a,d⟩
  rcases hv with q|q|q|q
  ·exact q
  ·exact absurd (h.touch.2 (.inl q)) a
  ·exact absurd (h.cross.1 q).2 d
  ·exact absurd (h.touch.2 (.inr q)) a
theorem dS2{s t:Sg}(a:bI s)(b:bI t)(h:dG s t=0):dG t s=0:=by
 rw[bS4 a b]at h;rw[bS4 b a];refine⟨λ⟨p,c⟩=>h.1 ⟨p,eD0.1 c⟩,λq=>h.2 ?_⟩;exact⟨q.2,q.1⟩
theorem vV{r:Rg}(h:3<=r.length):bF r=dD (λi=>r.getD i z0) r.length:=by
 unfold bF dD;rw[Q5 Aa];refine SE (λi hi=>?_);have:=Sl.1 hi
 show(r.getD i z0,iU r i)=_;rw[Nat.mod_eq_of_lt this];rfl
theorem bC9{r:Rg}(h:3<=r.length){e:Sg}:e∈bF r↔∃i,i<r.length/\e=aJ4 r i:=by
 unfold bF;rw[Q5 Aa,QZ];constructor
 ·rintro⟨i,hi,rfl⟩;exact⟨i,Sl.1 hi,rfl⟩
 ·rintro⟨i,hi,rfl⟩;exact⟨i,Sl.2 hi,rfl⟩
theorem vN{r:Rg}(a:bR7 r){v:Vc}(hv:v∈r):Sm4 v:=by
 have:=a v hv;rw[within_iff Aa]at this;unfold Sm4;omega
theorem aG8{r:Rg}(h:dM r){e:Sg}(f:e∈bF r):e.1≠e.2:=by
 obtain⟨i,hi,rfl⟩:=(bC9 h.1).1 f;intro d;have c:=h.2.2.2.2.1 i hi;apply c;have j:=vN h.2.2.1 (aE1 hi)
 have g:=vN h.2.2.1 (v:=mY r i) (aE1 (RV _ Aa));have b:=vN h.2.2.1 (bA6 hi)
 rw[zH g j b];have a:r.getD i z0=iU r i:=d;rw[a];have:X (dif (iU r i) (mY r i)) (dif (iU r i) (mY r i))=0:=by unfold X;rw[Int.mul_comm];omega
 rw[this];rfl
theorem bH8{p:Vc}(a:Sm4 p):∀ {l:List Sg} {b:Bool},(∀e∈l,bI e)->(∀e∈l,¬eX e p)->lU (p.1,p.2,1) l b=if(b^^par p l)=true then 2 else 0
 | [],b,_,_=>by
   rw[qB];show _=if(b^^false)=true then 2 else 0
   rw[Bool.xor_false]
 |e::l,b,f,d=>by
  have j:=f e Ae;have g:=d e Ae
  have i:¬onE (p.1,p.2,1) e:=λq=>g ((cC3 a j).1 q);have c:par p (e::l)=(decB (ray e p)^^par p l):=rfl
  have k:=λb=>bH8 a (l:=l) (b:=b) (λx hx=>f x BH) (λx hx=>d x BH);grind [rE,dH,dD7,jD,dW,ray]
def onR(r:Rg)(v:Vc):Prop:=∃e∈bF r,eX e v
theorem nZ{r:Rg}(h:dM r){v:Vc}(hv:Sm4 v):fJ r v=1↔onR r v:=by
 rw[aC1 (pY.2 hv),aD9 h (bC7 hv),yZ];constructor
 ·rintro⟨e,a,q⟩;exact⟨e,a,(cC3 hv (jO h.2.2.1 a)).1 q⟩
 ·rintro⟨e,a,q⟩;exact⟨e,a,(cC3 hv (jO h.2.2.1 a)).2 q⟩
theorem zS9{r:Rg}(h:dM r){v:Vc}(hv:Sm4 v)(b:¬onR r v):fJ r v=if par v (bF r)=true then 2 else 0:=by
 rw[aC1 (pY.2 hv),aD9 h (bC7 hv),bH8 hv (λe a=>jO h.2.2.1 a) (λe a q=>b ⟨e,a,q⟩),Bool.false_xor]
theorem zD{r:Rg}(h:dM r){v:Vc}(hv:Sm4 v):fJ r v=2↔¬onR r v/\par v (bF r)=true:=by
 constructor
 ·grind [nZ,zS9]
 ·simp_all [zS9,Q9]
theorem aE8{r:Rg}(h:dM r){v:Vc}(hv:Sm4 v):fJ r v=0↔¬onR r v/\par v (bF r)=false:=by
 grind [nZ,zS9]
structure Apart(a b:Rg):Prop where
 oa:dM a
 ob:dM b
 ap:uV a b
theorem Apart.symm{a b:Rg}(h:Apart a b):Apart b a:=⟨h.ob,h.oa,λx d y c=>dS2 (jO h.oa.2.2.1 c) (jO h.ob.2.2.1 d) (h.ap y c x d)⟩
theorem Apart.sep{a b:Rg}(h:Apart a b){f g:Sg}(c:f∈bF a)(d:g∈bF b):Sep f.1 f.2 g:=
 rC (jO h.oa.2.2.1 c) (jO h.ob.2.2.1 d) (aG8 h.oa c) (h.ap f c g d)
theorem Apart.off{a b:Rg}(h:Apart a b){v:Vc}(hv:onR a v):¬onR b v:=by
 rintro⟨g,c,q⟩;obtain⟨f,d,p⟩:=hv;exact eZ7 (jO h.oa.2.2.1 d) (jO h.ob.2.2.1 c) (aG8 h.oa d) (aG8 h.ob c) (h.ap f d g c) p q
theorem Apart.along{a b:Rg}(h:Apart a b){f:Sg}(c:f∈bF a){v:Vc}(hv:eX f v):par v (bF b)=par f.2 (bF b):=by
 obtain⟨N,k,e⟩:=cX7 (jO h.oa.2.2.1 c) (aG8 h.oa c) hv;rw[vV h.ob.1];exact eY9 _ _ e (λg d=>h.sep c (by rw[vV h.ob.1];exact d))
theorem vert_onR{r:Rg}(h:dM r){v:Vc}(hv:v∈r):onR r v:=by
 obtain⟨e,a,rfl⟩:=bC8 h.1 hv;exact⟨e,a,rH (jO h.2.2.1 a)⟩
theorem vH{r:Rg}(h:dM r){e:Sg}(a:e∈bF r):e.1∈r/\e.2∈r:=by
 obtain⟨i,hi,rfl⟩:=(bC9 h.1).1 a;exact⟨aE1 hi,bA6 hi⟩
theorem Apart.const{a b:Rg}(h:Apart a b):∀i,i<a.length->par (a.getD i z0) (bF b)=par (a.getD 0 z0) (bF b):=by
 intro i
 induction i with
 |zero=>intro _;rfl
 |succ i e=>
  intro hi;rw[<-e Aa];have c:aJ4 a i∈bF a:=(bC9 h.oa.1).2 ⟨i,Aa,rfl⟩;have k:=h.along c (rH (jO h.oa.2.2.1 c))
  have d:(aJ4 a i).2=a.getD (i+1) z0:=by
   show iU a i=_;unfold iU;rw[Nat.mod_eq_of_lt hi]
  rw[d]at k;exact k.symm
theorem Apart.fC0{a b:Rg}(h:Apart a b){u v:Vc}(d:u∈a)(hv:v∈a):par u (bF b)=par v (bF b):=by
 obtain⟨i,hi,rfl⟩:=List.mem_iff_getElem.1 d;obtain⟨j,c,rfl⟩:=List.mem_iff_getElem.1 hv;have f:=h.const i hi;have e:=h.const j c
 simp_all
theorem eB8:∀ {l:List Vc},l≠ []->∃m∈l,∀v∈l,v.2<=m.2
 | [],h=>absurd rfl h
 | [x],_=>⟨x,Ae,λv hv=>by rw[QI.1 hv];omega⟩
 |x::y::l,_=>by
  obtain⟨m,b,a⟩:=eB8 (l:=y::l) Ae;by_cases h:m.2<=x.2
  ·grind
  ·grind
theorem Apart.outer{h o:Rg}(c:Apart h o)(d:pR h o 2):∀v∈o,par v (bF h)=false:=by
 have i:o≠ [] :=λq=>by have:=c.ob.1;rw[q]at this;simp at this
 obtain⟨m,n,b⟩:=eB8 i
 have a:∀u∈h,u.2<=m.2:=by
  intro u k;by_cases r:u.2<=m.2
  ·exact r
  exfalso;have l:=((zD c.ob (vN c.oa.2.2.1 k)).1 (d u k)).2
  rw[dH1 (λe j=>by
   obtain⟨f,g⟩:=vH c.ob j;have:=b _ f;have:=b _ g;omega)]at l
  cases l
 have p:par m (bF h)=false:=dH1 (λe j=>by
  obtain⟨f,g⟩:=vH c.oa j;exact⟨a _ f,a _ g⟩)
 intro v hv;rw[<-p];exact c.symm.fC0 hv n
theorem Apart.inner{h o:Rg}(ha:Apart h o)(hin:pR h o 2){v:Vc}(hv:Sm4 v)(k:fJ h v≠0):fJ o v=2:=by
 rw[zD ha.ob hv];by_cases d:onR h v
 ·refine⟨ha.off d,?_⟩
  obtain⟨f,hf,q⟩:=d;rw[ha.along hf q];exact PE
 ·have b:par v (bF h)=true:=by
   cases l:par v (bF h)
   ·exact absurd ((aE8 ha.oa hv).2 ⟨d,l⟩) k
   ·rfl
  have c:=ha.outer hin;constructor
  ·rintro⟨g,a,q⟩
   have:=ha.symm.along a q;rw[b,c _ (vH ha.ob a).2]at this;cases this
  ·have j:=vV ha.ob.1
   have e:=vV ha.oa.1;rw[j];rw[e]at b;refine cT7 (vh:=λi=>h.getD i z0) (nh:=h.length) ?_ ?_ ?_ ?_ ?_ ?_ ?_ b
   ·intro g a;rw[<-j]at a;exact jO ha.ob.2.2.1 a
   ·intro f hf;rw[<-e]at hf;exact jO ha.oa.2.2.1 hf
   ·intro f hf g a
    rw[<-e]at hf;rw[<-j]at a;exact⟨ha.ap f hf g a,ha.symm.ap g a f hf⟩
   ·intro f hf;rw[<-e]at hf;exact aG8 ha.oa hf
   ·intro g a;rw[<-j]at a;exact aG8 ha.ob a
   ·intro f hf
    rw[<-e]at hf;rw[<-j];exact PE
   ·intro g a
    rw[<-j]at a;rw[<-e];exact c _ (vH ha.ob a).2
theorem Apart.beside{h k:Rg}(a:Apart h k)(c:pR h k 0){v:Vc}(b:onR h v)(hv:Sm4 v):fJ k v=0:=by
 rw[aE8 a.ob hv];refine⟨a.off b,?_⟩;obtain⟨f,d,q⟩:=b;rw[a.along d q];have e:=(vH a.oa d).2;exact((aE8 a.ob (vN a.oa.2.2.1 e)).1 (c _ e)).2
theorem bK3{o:Rg}:∀ {l pre:List Rg},qR o pre l->(∀r∈l,dM r)->dM o->∀h∈l,Apart h o/\pR h o 2
 | [],_,_,_,_,h,a=>by cases a
 |x::l,pre,b,d,c,h,a=>by
  rcases QO.1 a with rfl|a
  ·exact⟨⟨d h Ae,c,b.1.2.1⟩,b.1.1⟩
  ·exact bK3 b.2 (λr q=>d r (by simp[q])) c h a
theorem bK4{s:Sh}(a:bG s){h:Rg}(b:h∈s.holes):Apart h s.outer/\pR h s.outer 2:=
 bK3 a.2.2.2 (λr hr=>a.2.1 r Df) (a.2.1 s.outer AQ) h b
theorem bF4{o:Rg}:∀ {l pre:List Rg},qR o pre l->∀ {i j:Nat} {a b:Rg},i<j->(pre++l)[i]? =some a->l[j-pre.length]? =some b->pre.length<=j->uV b a/\pR b a 0/\pR a b 0
 | [],pre,_,i,j,a,b,c,f,d,k=>by simp at d
 |x::l,pre,e,i,j,a,b,c,f,d,k=>by
  by_cases m:j=pre.length
  ·subst m
   rw[Nat.sub_self]at d;cases d
   have g:a∈pre:=by
    grind
   exact e.1.2.2 a g
  ·refine bF4 (l:=l) (pre:=pre++[x]) e.2 c (by rw[Si];exact f) ?_ AU
   rw[QG,QK];grind
theorem cS9{s:Sh}(c:bG s){i j:Nat}{a b:Rg}(d:i<j)(f:s.holes[i]? =some a)(e:s.holes[j]? =some b):Apart b a/\pR b a 0/\pR a b 0:=by
 have h:=bF4 (pre:=[]) c.2.2.2 d f e (Ro _);exact⟨⟨c.2.1 b (by unfold rings;simp[QF e]),c.2.1 a (by unfold rings;simp[QF f]),h.1⟩,h.2⟩
def lG(v:Vc)(o:Int):List Rg->Int
 | [] =>o
 |h::l=>if fJ h v=2 then 0 else if fJ h v=1 then 1 else lG v o l
theorem cJ3{r:Rg}{v:Vc}:fJ r v=0\/fJ r v=1\/fJ r v=2:=by
 grind [fL3,fJ,iF]
theorem cI4{r:Rg}{v:Vc}(hv:Sm4 v):iF r (v.1,v.2,1)=fJ r v:=(aC1 (pY.2 hv)).symm
theorem bT3{v:Vc}(hv:Sm4 v)(o:Int):∀l:List Rg,qG o (v.1,v.2,1) l=lG v o l
 | [] =>rfl
 |h::l=>by
  rw[qG,lG,cI4 hv,bT3 hv o l]
theorem tH{v:Vc}{o:Int}:∀ {l:List Rg},(∀h∈l,fJ h v=0)->lG v o l=o
 | [],_=>rfl
 |h::l,a=>by
  simp_all [Q5,tH,lG]
theorem eG3{s:Sh}(b:bG s){v:Vc}(hv:Sm4 v):lJ s v=lG v (fJ s.outer v) s.holes:=by
 unfold lJ;rw[Q9 (pY.2 hv)];unfold qW;rw[Q9 b,cI4 hv,bT3 hv];by_cases e:∃h∈s.holes,fJ h v≠0
 ·obtain⟨h,c,d⟩:=e
  obtain⟨f,a⟩:=bK4 b c;rw[f.inner a hv d,Q9 rfl]
 ·grind [tH]
theorem fD8{s:Sh}(c:bG s){v:Vc}(hv:Sm4 v):lJ s v=1↔∃r∈rings s,onR r v:=by
 have C:dM s.outer:=c.2.1 _ AQ;rw[eG3 c hv];constructor
 ·intro h
  by_cases A:∃h∈s.holes,fJ h v=1
  ·obtain⟨r,e,y⟩:=A
   exact⟨r,by unfold rings;simp[e],(nZ (c.2.1 r (by unfold rings;simp[e])) hv).1 y⟩
  ·have key:∀l:List Rg,(∀r∈l,fJ r v≠1)->lG v (fJ s.outer v) l=1->fJ s.outer v=1:=by
    intro l
    induction l with
    |nil=>intro _ h;exact h
    |cons x l m=>
     intro q h;rw[lG]at h;grind
   grind [nZ,rings]
 ·rintro⟨r,hr,b⟩
  rcases QO.1 (show r∈s.outer::s.holes from hr)with rfl|hr
  ·have z:∀h∈s.holes,fJ h v=0:=λh e=>by
    obtain⟨f,g⟩:=bK4 c e;by_cases q:fJ h v=0
    ·exact q
    ·have:=f.inner g hv q
     have:=(nZ C hv).2 b;omega
   grind [tH,nZ]
  ·obtain⟨j,t⟩:=List.mem_iff_getElem?.1 hr
   have d:dM r:=c.2.1 r Df;have u:=(nZ d hv).2 b
   have key:∀(l:List Rg) (n:Nat),(∀i a,l[i]? =some a->s.holes[n+i]? =some a)->n<=j->l[j-n]? =some r->lG v (fJ s.outer v) l=1:=by
    intro l
    induction l with
    |nil=>intro n _ _ h;simp at h
    |cons x l m=>
     intro n o F E;rw[lG];by_cases w:j=n
     ·simp_all
     ·have k:=o 0 x rfl
      obtain⟨f,B,D⟩:=cS9 c (i:=n) (j:=j) Aa k t;have z:=f.beside B b hv;rw[Q5 Aa,Q5 Aa];refine m (n+1) (λi a hi=>?_) Aa ?_
      ·rw[Td,Nat.add_comm 1]
       exact o (i+1) a (by rw[RG];exact hi)
      ·grind
   exact key s.holes 0 (λi a h=>by rw[SL];exact h) (Ro _) t
end Go.Proofs.Led
