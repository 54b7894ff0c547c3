/- Lemmas. -/
import Derived.Test.YtcmgfjaiegpddaaGreatB11
set_option linter.all false
set_option maxRecDepth 100000
set_option maxHeartbeats 4000000
noncomputable section
namespace Go.Proofs.Led
open Go Go.Proofs Go.Ab
theorem cD2{u p:Vc}(h:Bb (u,u) p):p=u:=by
 grind [Bb]
theorem cW7{s t:Sg}(c:bI s)(e:bI t)(hd:xD s t=0)(b:s.1=s.2):bT6 s t (dG s t):=by
 have a:∀p,Com s t p↔p=s.1/\eX t s.1:=by
  intro p;constructor;rintro⟨f,g⟩;have d:p=s.1:=cD2 (u:=s.1) (by have:=((gZ c).1 f).1;unfold Bb at*;rw[<-b]at this;exact this);exact⟨d,d▸g⟩;rintro⟨rfl,h⟩;exact⟨rH c,h⟩
 have i:xB s t=0:=by unfold xB;rw[<-b];unfold X dif;simp
 have hcr:¬zT9 s t:=by rw[wY c e,i,hd];omega
 have j:dG s t=open Classical in if eX t s.1 then 1 else 0:=by
  obtain⟨e1,_,_⟩:=aM8 c e;unfold dG kQ;rw[Ph (by rintro(h|h)<;>exact h Ah),Ph GN];by_cases h:eX t s.1;rw[Pm ⟨b,h⟩,Pm h];rfl;rw[Ph (λq=>h q.2),Ph h,Ph,Pm (.inl b)];rfl;grind [cD2,gZ,rH,Bb]
 rw[j];by_cases h:eX t s.1;rw[Pm h];refine⟨⟨λh=>Ag,?_⟩,⟨λ_=> .inl rfl,λ_=>⟨s.1, .inl rfl,(a _).2 ⟨rfl,h⟩⟩⟩,⟨λh=>Ag,λh=>absurd h.2 hcr⟩⟩;grind;exact JH
theorem dA9{s t:Sg}(f:bI s)(c:bI t)(hd:xD s t=0)(d:s.1≠s.2)(b:t.1=t.2):bT6 s t (dG s t):=by
 have a:∀p,Com s t p↔p=t.1/\eX s t.1:=by
  intro p;constructor;rintro⟨g,i⟩;have e:p=t.1:=cD2 (u:=t.1) (by have:=((gZ c).1 i).1;unfold Bb at*;rw[<-b]at this;exact this);exact⟨e,e▸g⟩;rintro⟨rfl,h⟩;exact⟨h,rH c⟩
 have j:xA s t=0:=by unfold xA;rw[<-b];unfold X dif;simp
 have hcr:¬zT9 s t:=by rw[wY f c,j,hd];omega
 have k:dG s t=open Classical in if eX s t.1 then 1 else 0:=by
  obtain⟨e1,_,_⟩:=aM8 f c;unfold dG kQ;rw[Ph (by rintro(h|h)<;>exact h Ah),Ph GN,Ph (λq=>d q.1)];by_cases h:eX s t.1;rw[Pm ⟨b,h⟩,Pm h];rfl;rw[Ph (λq=>h q.2),Ph h,Pm (.inr (.inl b))];rfl
 rw[k];by_cases h:eX s t.1;rw[Pm h];refine⟨⟨λh=>Ag,?_⟩,⟨λ_=> .inl rfl,λ_=>⟨t.1, .inr (.inr (.inl rfl)),(a _).2 ⟨rfl,h⟩⟩⟩,⟨λh=>Ag,λh=>absurd h.2 hcr⟩⟩;grind;exact JH
def bZ7{a b:Vc}(h:a≠b):dif b a≠(0,0):=by
 intro e;have c:b.1-a.1=0:=PN Prod.fst e;have d:b.2-a.2=0:=PN Prod.snd e;exact h (Prod.ext Aa Aa)
theorem dR9{s t:Sg}(e:bI s)(f:bI t)(hd:xD s t=0)(g:s.1≠s.2)(k:t.1≠t.2)(o:xB s t≠0):bT6 s t (dG s t):=by
 obtain⟨a,b⟩:=jP.1 e;obtain⟨c,d⟩:=jP.1 f;obtain⟨l,y,z,A⟩:=vK s t
 have j:∀p,¬Com s t p:=by
  rintro p ⟨u,v⟩;have m:=((gZ e).1 u).2;have x:=((gZ f).1 v).2;have e1:X (dif s.2 s.1) (dif p t.1)=0:=aL3 (w:=dif t.2 t.1) hd (by unfold X at*;rw[Int.mul_comm,Int.mul_comm (dif p t.1).2];omega) (bZ7 k);apply o;have n:X (dif s.2 s.1) (dif t.1 s.1)=X (dif s.2 s.1) (dif p s.1)-X (dif s.2 s.1) (dif p t.1):=BM;rw[l,m,e1]at n;omega
 have i:¬zT9 s t:=by rw[wY e f,hd];omega
 have r:dG s t=0:=by
  obtain⟨e1,_,_⟩:=aM8 e f;unfold dG kQ;rw[Ph (by rintro(h|h)<;>exact h Ah),Ph GN,Ph (λq=>g q.1),Ph (λq=>k q.1),Pm (.inr (.inr (by rw[zH a b c,l,tC];omega)))];rfl
 rw[r];refine⟨⟨λh=>Ag,?_⟩,⟨?_,λh=>EX⟩,⟨λh=>Ag,λh=>absurd h.2 i⟩⟩;simp_all;rintro⟨p,_,g⟩;exact absurd g (j p)
def co(w p:Vc):Int:=if w.2≠0 then p.2 else p.1
def onL(w o p:Vc):Prop:=X w (dif p o)=0
def xR{w o p q:Vc}(a:onL w o p)(b:onL w o q):w.1*(p.2-q.2)=w.2*(p.1-q.1):=by
 unfold onL X dif at*;simp only at*;grind
theorem bX1{w o p q:Vc}(hw:w≠(0,0))(a:onL w o p)(b:onL w o q)(h:co w p=co w q):p=q:=by
 have e:=xR a b;unfold co at h;by_cases h2:w.2=0;rw[Ph Gf,Ph Gf]at h;exact NU;rw[Pm h2,Pm h2]at h;rw[show p.2-q.2=0 from Aa,Int.mul_zero]at e;grind [Int.mul_eq_zero]
def aZ9{w o p q:Vc}(hw:w≠(0,0))(a:onL w o p)(b:onL w o q):kF p q↔co w p<co w q:=by
 rw[aG2];have e:=xR a b;unfold co;by_cases h2:w.2=0;rw[Ph Gf,Ph Gf];exact NU;rw[Pm h2,Pm h2];constructor;rintro(h|⟨h,h'⟩);exact h;rw[show p.2-q.2=0 from Aa,Int.mul_zero]at e;rcases Int.mul_eq_zero.1 e.symm with e|e;exact absurd e h2;omega;exact λh=> .inl h
def dE8{w o p q r:Vc}(i:w≠(0,0))(a:onL w o p)(m:onL w o q)(n:onL w o r):Bb (p,q) r↔min (co w p) (co w q)<=co w r/\co w r<=max (co w p) (co w q):=by
 have y:=xR n a;have z:=xR m a;unfold Bb;simp only;by_cases h2:w.2=0;have D:w.1≠0:=λA=>i (Prod.ext A h2);unfold co;rw[Ph Gf,Ph Gf,Ph Gf];rw[h2,Int.zero_mul]at y z;grind [Int.mul_eq_zero];unfold co;rw[Pm h2,Pm h2,Pm h2];constructor;rintro⟨_,_,b,c⟩;exact⟨b,c⟩;rintro⟨b,c⟩
 have s:(q.2-p.2)*(r.1-p.1)=(r.2-p.2)*(q.1-p.1):=by
  have:w.2*((q.2-p.2)*(r.1-p.1)- (r.2-p.2)*(q.1-p.1))=0:=BK;grind [Int.mul_eq_zero]
 rcases Int.lt_trichotomy p.2 q.2 with C|e|B;obtain⟨j,l⟩:=share (d:=q.2-p.2) (k:=r.2-p.2) (u:=p.1) (v:=q.1) (p:=r.1) Aa s Aa Aa;simp_all;have f:p=q:=bX1 i a m (by unfold co;rw[Pm h2,Pm h2];exact e);have g:r=p:=bX1 i n a (by unfold co;rw[Pm h2,Pm h2];omega);subst g;subst f;omega
 obtain⟨j,l⟩:=share (d:=p.2-q.2) (k:=p.2-r.2) (u:=p.1) (v:=q.1) (p:=r.1) Aa (by
  have t:(p.2-q.2)*(r.1-p.1)= -((q.2-p.2)*(r.1-p.1)):=by rw[<-Int.neg_mul];congr 1;omega
  have x:(p.2-r.2)*(q.1-p.1)= -((r.2-p.2)*(q.1-p.1)):=by rw[<-Int.neg_mul];congr 1;omega
  rw[t,x,s]) Aa Aa
 exact⟨j,l,b,c⟩
def bS9{a b:Vc}:vcmp a b=0↔a=b:=by
 grind [vcmp,orI,cmpI]
theorem dD9{a b:Vc}:vcmp a b= -1↔kF a b:=by
 grind [gC8,kF]
def cE8{A B C D lo hi:Int}(a:lo=max (min A B) (min C D))(b:hi=min (max A B) (max C D))(x:Int):((min A B<=x/\x<=max A B)/\(min C D<=x/\x<=max C D))↔lo<=x/\x<=hi:=by
 omega
def eN9{A B C D lo:Int}(a:lo=max (min A B) (min C D)):lo=A\/lo=B\/lo=C\/lo=D:=Aa
def eL9{A B C D hi:Int}(a:hi=min (max A B) (max C D)):hi=A\/hi=B\/hi=C\/hi=D:=Aa
theorem eA6{s t:Sg}(hs:bI s)(ht:bI t)(hd:xD s t=0)(x:s.1≠s.2)(M:t.1≠t.2)(r:xB s t=0):bT6 s t (dG s t):=by
 obtain⟨a,b⟩:=jP.1 hs;obtain⟨c,d⟩:=jP.1 ht;obtain⟨V,x2,x3,x4⟩:=vK s t;have hw:=bZ7 x;have la:onL (dif s.2 s.1) s.1 s.1:=by unfold onL X dif;simp
 have lb:onL (dif s.2 s.1) s.1 s.2:=En;have lc:onL (dif s.2 s.1) s.1 t.1:=by unfold onL;rw[V,r];rfl
 have ld:onL (dif s.2 s.1) s.1 t.2:=by unfold onL;rw[x2,r,hd];rfl
 have i:∀p,uH s t p->onL (dif s.2 s.1) s.1 p:=by
  rintro p (rfl|rfl|rfl|rfl)<;>assumption
 have lt':∀p,onL (dif s.2 s.1) s.1 p->X (dif t.2 t.1) (dif p t.1)=0:=λp hp=>Jk
 have N:∀p,onL (dif s.2 s.1) s.1 p->(Com s t p↔(min (co (dif s.2 s.1) s.1) (co (dif s.2 s.1) s.2)<=co (dif s.2 s.1) p/\co (dif s.2 s.1) p<=max (co (dif s.2 s.1) s.1) (co (dif s.2 s.1) s.2))/\
  (min (co (dif s.2 s.1) t.1) (co (dif s.2 s.1) t.2)<=co (dif s.2 s.1) p/\co (dif s.2 s.1) p<=max (co (dif s.2 s.1) t.1) (co (dif s.2 s.1) t.2))):=λp hp=>by
  exact MK
 have y:¬zT9 s t:=by rw[wY hs ht,r,hd];omega
 have g:∀(q:Sg),onL (dif s.2 s.1) s.1 q.1->onL (dif s.2 s.1) s.1 q.2->onL (dif s.2 s.1) s.1 (ordS q).1/\onL (dif s.2 s.1) s.1 (ordS q).2/\co (dif s.2 s.1) (ordS q).1=min (co (dif s.2 s.1) q.1) (co (dif s.2 s.1) q.2)/\co (dif s.2 s.1) (ordS q).2=max (co (dif s.2 s.1) q.1) (co (dif s.2 s.1) q.2):=λq o Z=>by
  have k:=aZ9 hw Z o;grind [cZ7,cY4]
 obtain⟨s1,s2,R,S⟩:=g s la lb;obtain⟨t1,t2,T,U⟩:=g t lc ld
 have F:onL (dif s.2 s.1) s.1 (hiLo (ordS s) (ordS t)).1/\onL (dif s.2 s.1) s.1 (hiLo (ordS s) (ordS t)).2/\co (dif s.2 s.1) (hiLo (ordS s) (ordS t)).1=max (co (dif s.2 s.1) (ordS s).1) (co (dif s.2 s.1) (ordS t).1)/\co (dif s.2 s.1) (hiLo (ordS s) (ordS t)).2=min (co (dif s.2 s.1) (ordS s).2) (co (dif s.2 s.1) (ordS t).2):=by
  have k1:=aZ9 hw s1 t1;have k2:=aZ9 hw t2 s2;unfold hiLo;simp only;refine⟨?_,?_,?_,?_⟩;split<;>assumption;split<;>assumption;split;rename_i h;have:=k1.1 h;omega;rename_i h;have:¬co (dif s.2 s.1) (ordS s).1<co (dif s.2 s.1) (ordS t).1:=λq=>h (k1.2 q);omega;split<;>grind
 have O:dG s t=(yD (hiLo (ordS s) (ordS t))).kind:=by
  obtain⟨e1,_,_⟩:=aM8 hs ht;unfold dG kQ;rw[Ph (by rintro(h|h)<;>exact h Ah),Ph GN,Ph (λq=>x q.1),Ph (λq=>M q.1),Ph];rintro(h|h|h);exact x h;exact M h;exact h (by rw[zH a b c,V,r];rfl)
 obtain⟨P,Q,u,v⟩:=F;rw[R,T]at u;rw[S,U]at v
 have E:(co (dif s.2 s.1) (hiLo (ordS s) (ordS t)).1=co (dif s.2 s.1) (hiLo (ordS s) (ordS t)).2/\dG s t=1)\/(co (dif s.2 s.1) (hiLo (ordS s) (ordS t)).1<co (dif s.2 s.1) (hiLo (ordS s) (ordS t)).2/\dG s t=3)\/(co (dif s.2 s.1) (hiLo (ordS s) (ordS t)).2<co (dif s.2 s.1) (hiLo (ordS s) (ordS t)).1/\dG s t=0):=by
  rw[O];generalize hiLo (ordS s) (ordS t)=q at*;have k:=aZ9 hw P Q;unfold yD;by_cases n:vcmp q.1 q.2=0;rw[Pm n];left;exact⟨by rw[bS9.1 n],rfl⟩;rw[Ph n];have aa:co (dif s.2 s.1) q.1≠co (dif s.2 s.1) q.2:=λh=>n (bS9.2 (bX1 hw P Q h));by_cases o:vcmp q.1 q.2= -1;simp_all [Pm,dD9];rw[Ph o];right;right;have:¬co (dif s.2 s.1) q.1<co (dif s.2 s.1) q.2:=λh=>o (dD9.2 (k.2 h));exact⟨Aa,rfl⟩
 have f:=cE8 (A:=co (dif s.2 s.1) s.1) (B:=co (dif s.2 s.1) s.2) (C:=co (dif s.2 s.1) t.1) (D:=co (dif s.2 s.1) t.2) u v;have G:=eN9 (A:=co (dif s.2 s.1) s.1) (B:=co (dif s.2 s.1) s.2) (C:=co (dif s.2 s.1) t.1) (D:=co (dif s.2 s.1) t.2) u;have H:=eL9 (A:=co (dif s.2 s.1) s.1) (B:=co (dif s.2 s.1) s.2) (C:=co (dif s.2 s.1) t.1) (D:=co (dif s.2 s.1) t.2) v;have m:∀p,onL (dif s.2 s.1) s.1 p->(Com s t p↔co (dif s.2 s.1) (hiLo (ordS s) (ordS t)).1<=co (dif s.2 s.1) p/\co (dif s.2 s.1) p<=co (dif s.2 s.1) (hiLo (ordS s) (ordS t)).2):=λp hp=>(N p hp).trans (f _);clear N f u v R S T U g O lt';generalize co (dif s.2 s.1) (hiLo (ordS s) (ordS t)).1=lo at*;generalize co (dif s.2 s.1) (hiLo (ordS s) (ordS t)).2=hi at*
 have j:∀z:Int,(z=co (dif s.2 s.1) s.1\/z=co (dif s.2 s.1) s.2\/z=co (dif s.2 s.1) t.1\/z=co (dif s.2 s.1) t.2)->∃p,uH s t p/\co (dif s.2 s.1) p=z:=by
  rintro z (h|h|h|h);exact⟨_, .inl rfl,h.symm⟩;exact⟨_, .inr (.inl rfl),h.symm⟩;exact⟨_, .inr (.inr (.inl rfl)),h.symm⟩;exact⟨_, .inr (.inr (.inr rfl)),h.symm⟩
 obtain⟨pl,K,L⟩:=j _ G;obtain⟨ph,I,J⟩:=j _ H;have Y:=m _ (i _ K);have W:=m _ (i _ I);rw[L]at Y;rw[J]at W
 have l:(∃p,uH s t p/\Com s t p)↔dG s t=1\/dG s t=3:=by
  grind
 refine⟨⟨λh=>?_,?_⟩,l,⟨λh=>Aa,λh=>absurd h.2 y⟩⟩;grind;grind [bX1]
def tells{s t:Sg}(a:bI s)(b:bI t):bT6 s t (dG s t):=by
 grind [cW7,dA9,eA6,dR9,eK8]
theorem bJ0{p v:Vc}(a:Sm4 p)(b:Sm4 v):toP (p.1,p.2,1) v=dif p v:=by
 unfold Sm4 at*;unfold toP dif;simp only[Int.mul_one];grind [w_in]
theorem dF8{p:Vc}{e:Sg}(c:Sm4 p)(d:bI e):bV4 (p.1,p.2,1) e=X (dif e.2 e.1) (dif p e.1):=by
 obtain⟨a,b⟩:=jP.1 d;unfold bV4;rw[bJ0 c a];unfold Sm4 at*;rw[kN ⟨Aa,Aa⟩ ⟨Aa,Aa⟩];unfold dif;rw[iK ⟨AV,AV⟩ ⟨AV,AV⟩ ⟨AV,AV⟩ ⟨AV,AV⟩];rfl
def cC3{p:Vc}{e:Sg}(a:Sm4 p)(b:bI e):onE (p.1,p.2,1) e↔eX e p:=by
 grind [jP,gZ,dF8,bJ0,onE,Bb,dif]
def rayC(e:Sg)(p:Vc)(z:Int):Prop:=(e.1.2<=p.2/\p.2<e.2.2/\0<z)\/(e.2.2<=p.2/\p.2<e.1.2/\z<0)
theorem dD7{p:Vc}{e:Sg}(f:Sm4 p)(g:bI e)(i:¬eX e p):rW (p.1,p.2,1) e↔rayC e p (X (dif e.2 e.1) (dif p e.1)):=by
 obtain⟨a,b⟩:=jP.1 g;rw[gZ g]at i;unfold rW;rw[dF8 f g,bJ0 f a,bJ0 f b]
 have q:e.2.2<=p.2->p.2<e.1.2->X (dif e.2 e.1) (dif p e.1)≠0:=by
  intro n o c;apply i;refine⟨?_,c⟩;unfold X dif at c;simp only at c;obtain⟨r,s⟩:=share (d:=e.1.2-e.2.2) (k:=e.1.2-p.2) (u:=e.1.1) (v:=e.2.1) (p:=p.1) Aa BK Aa Aa;unfold Bb;omega
 generalize X (dif e.2 e.1) (dif p e.1)=z at*;unfold rayC dif;simp only;constructor;omega;rintro(⟨j,l,m⟩|⟨j,l,m⟩);omega;exact⟨λh=>by have:=h.2 Aa;omega,λh=>Aa,λh=>Aa⟩
def pY{v:Vc}:within v 4000↔Sm4 v:=by
 rw[within_iff Aa];exact Qn
def bC7{p:Vc}(h:Sm4 p):wJ (p.1,p.2,1):=by
 unfold Sm4 at h;refine⟨⟨(by decide:(1:Int)<=1),(by decide:(1:Int)<=134217728),?_⟩,gcd_one _⟩;show within (p.1,p.2) (W (4000*1));rw[show W (4000*1)=4000 from Ai];exact pY.2 h
def aE1{r:Rg}{i:Nat}(h:i<r.length):r.getD i z0∈r:=KC
def bA6{r:Rg}{i:Nat}(h:i<r.length):iU r i∈r:=aE1 (QE _ Aa)
def jO{r:Rg}(c:bR7 r){e:Sg}(b:e∈bF r):bI e:=by
 unfold bF at b;split at b;cases b;obtain⟨i,hi,rfl⟩:=PI.1 b;have a:=Qh.1 hi;have d:=c _ (aE1 a);have f:=c _ (bA6 a);rw[within_iff Aa]at d f;refine jP.2 ⟨?_,?_⟩;show Sm4 (r.getD i z0);unfold Sm4;omega;show Sm4 (iU r i);unfold Sm4;omega
theorem yZ{p:Pt}:∀ {l:List Sg} {b:Bool},lU p l b=1↔∃e∈l,onE p e
 | [],b=>by rw[qB];cases b<;>simp
 |e::l,b=>by
  by_cases h:onE p e;rw[oP h];exact⟨λ_=>⟨e,Af,h⟩,λ_=>rfl⟩;by_cases a:rW p e;simp_all [rE,yZ,P5];simp_all [jD,yZ,P5]
def sgn(x y:Int):(0<x->0<y->0<x*y)/\(0<x->y<0->x*y<0)/\(x<0->0<y->x*y<0)/\(x<0->y<0->0<x*y)/\(x=0->x*y=0)/\(y=0->x*y=0):=
 ⟨Int.mul_pos,Int.mul_neg_of_pos_of_neg,Int.mul_neg_of_neg_of_pos,Int.mul_pos_of_neg_of_neg,λh=>by rw[h,Int.zero_mul],λh=>by rw[h,Int.mul_zero]⟩
def ray(e:Sg)(p:Vc):Prop:=rayC e p (X (dif e.2 e.1) (dif p e.1))
def inRt(p q z:Vc):Prop:=p.2<z.2/\z.2<=q.2/\X (dif q p) (dif z p)<0
def Sep(p q:Vc)(e:Sg):Prop:=
 (0<X (dif q p) (dif e.1 p)/\0<X (dif q p) (dif e.2 p))\/(X (dif q p) (dif e.1 p)<0/\X (dif q p) (dif e.2 p)<0)\/
 (0<X (dif e.2 e.1) (dif p e.1)/\0<X (dif e.2 e.1) (dif q e.1))\/(X (dif e.2 e.1) (dif p e.1)<0/\X (dif e.2 e.1) (dif q e.1)<0)\/
 (X (dif q p) (dif e.1 p)=0/\X (dif q p) (dif e.2 p)=0/\X (dif e.2 e.1) (dif p e.1)=0/\X (dif e.2 e.1) (dif q e.1)=0)
def fK2{w G:Int}(a:0<w):(0<G↔0<w*G)/\(G<0↔w*G<0):=by
 have s:=sgn w G;generalize w*G=m at*;omega
def eB3{w a b Sc Sd c d:Int}(j:0<w)(e:w*c=a*Sd-b*Sc)(f:w*d=(a-w)*Sd- (b-w)*Sc)
 (m:(0<Sc/\0<Sd)\/(Sc<0/\Sd<0)\/(0<c/\0<d)\/(c<0/\d<0)\/(Sc=0/\Sd=0/\c=0/\d=0)):
 ((((a<=0/\0<b/\0<c)\/(b<=0/\0<a/\c<0))↔((a<=w/\w<b/\0<d)\/(b<=w/\w<a/\d<0)))↔((0<a/\a<=w/\Sc<0)↔(0<b/\b<=w/\Sd<0))):=by
 have k:=fK2 (G:=c) j;have l:=fK2 (G:=d) j;rw[e]at k;rw[f]at l;clear e f;have hz:a-w<0\/a-w=0\/0<a-w:=Aa;have hy:b-w<0\/b-w=0\/0<b-w:=Aa;rcases m with⟨hSc,hSd⟩|⟨hSc,hSd⟩|⟨g,i⟩|⟨g,i⟩|⟨g,i,n,o⟩
 ·exact HY
 ·exact HY
 ·exact H8
 ·exact H8
 ·omega
def ids(p q c d:Vc):(q.2-p.2)*X (dif d c) (dif p c)=(c.2-p.2)*X (dif q p) (dif d p)- (d.2-p.2)*X (dif q p) (dif c p)/\
 (q.2-p.2)*X (dif d c) (dif q c)=(c.2-p.2- (q.2-p.2))*X (dif q p) (dif d p)- (d.2-p.2- (q.2-p.2))*X (dif q p) (dif c p):=by
 unfold X dif;simp only;constructor<;>grind
def eT3{p q:Vc}{e:Sg}(g:p.2<=q.2)(h:Sep p q e):(ray e p↔ray e q)↔(inRt p q e.1↔inRt p q e.2):=by
 obtain⟨c,d⟩:=e;obtain⟨j,l⟩:=ids p q c d;unfold Sep at h;unfold ray rayC inRt;simp only at*;by_cases i:p.2=q.2;have f:∀z:Vc,X (dif q p) (dif z p)=(q.1-p.1)*(z.2-p.2):=λz=>by unfold X dif;simp only;rw[i];simp
 rw[f,f]at h;have n:=sgn (q.1-p.1) (c.2-p.2);have o:=sgn (q.1-p.1) (d.2-p.2);grind;have k:=eB3 (w:=q.2-p.2) (a:=c.2-p.2) (b:=d.2-p.2) Aa j l h;generalize X (dif d c) (dif p c)=m at*;grind
theorem dW0{p q:Vc}{e:Sg}(h:Sep p q e):Sep q p e:=by
 have a:∀z:Vc,X (dif p q) (dif z q)= -X (dif q p) (dif z p):=λz=>BM;unfold Sep at*;rw[a,a];omega
structure Onp(N k:Int)(c d z:Vc):Prop where
 pos:0<N
 lo:0<=k
 hi:k<=N
 e1:N*(z.1-c.1)=k*(d.1-c.1)
 e2:N*(z.2-c.2)=k*(d.2-c.2)
def eN3{N:Int}{c d z:Vc}(h:Onp N N c d z):z=d:=by
 have a:=Int.eq_of_mul_eq_mul_left (by have:=h.pos;omega) h.e1;have b:=Int.eq_of_mul_eq_mul_left (by have:=h.pos;omega) h.e2;exact Prod.ext Aa Aa
def dI1{N m x y:Int}(b:0<N)(c:0<m)(h:N*x=m*y):(0<y->0<x)/\(y<0->x<0)/\(y=0->x=0):=by
 have d:=sgn N x;have a:=sgn m y;rw[<-h]at a;generalize N*x=t at*;omega
def eT5{N m k x y z:Int}(a:0<N)(c:0<m)(b:0<=k)(h:N*x=m*y+k*z):(0<y->0<z->0<x)/\(y<0->z<0->x<0)/\(y=0->z=0->x=0):=by
 have d:=sgn N x;have e:=sgn m y;have f:=sgn k z;grind
def eL1{N k:Int}{c d z:Vc}{e:Sg}(i:Onp N k c d z)(q:k<N)(h:Sep c d e):Sep z d e:=by
 obtain⟨a,f,_,j,l⟩:=i
 have b:∀u:Vc,N*X (dif d z) (dif u z)=(N-k)*X (dif d c) (dif u c):=λu=>by
  unfold X dif;simp only;grind
 have g:N*X (dif e.2 e.1) (dif z e.1)=(N-k)*X (dif e.2 e.1) (dif c e.1)+k*X (dif e.2 e.1) (dif d e.1):=by
  unfold X dif;simp only;grind
 have m:=dI1 a Aa (b e.1);have n:=dI1 a Aa (b e.2);have o:=eT5 a Aa f g;clear b g j l;unfold Sep at*;omega
def rC{s t:Sg}(g:bI s)(i:bI t)(a:s.1≠s.2)(h:dG s t=0):Sep s.1 s.2 t:=by
 obtain⟨b,c,d,e⟩:=vK s t;unfold Sep;rw[b,c,d,e];by_cases f:xD s t=0;omega;grind [dI7,uJ]
section
variable{α β:Type}
def xr(l:List α)(f:α->Bool):Bool:=l.foldr (λx b=>f x^^b) false
theorem fD4(f:α->Bool):xr [] f=false:=rfl
theorem nS(x:α)(l:List α)(f:α->Bool):xr (x::l) f=(f x^^xr l f):=rfl
theorem cY7(f:α->Bool):∀l m:List α,xr (l++m) f=(xr l f^^xr m f)
 | [],m=>by rw[Rh,fD4];cases xr m f<;>rfl
 |x::l,m=>by
  rw[RN,nS,nS,cY7 f l m];cases f x<;>cases xr l f<;>cases xr m f<;>rfl
theorem jF{f g:α->Bool}:∀ {l:List α},(∀x∈l,f x=g x)->xr l f=xr l g
 | [],_=>rfl
 |x::l,h=>by rw[nS,nS,h x (by simp),jF (λy a=>h y (by simp[a]))]
theorem aD0:∀l:List α,xr l (λ_=>false)=false
 | [] =>rfl
 |x::l=>by rw[nS,aD0 l];rfl
theorem cA9(f g:α->Bool):∀l:List α,xr l (λx=>f x^^g x)=(xr l f^^xr l g)
 | [] =>rfl
 |x::l=>by
  rw[nS,nS,nS,cA9 f g l];cases f x<;>cases g x<;>cases xr l f<;>cases xr l g<;>rfl
theorem bW6(c:Bool)(f:α->Bool)(l:List α):xr l (λx=>c&&f x)=(c&&xr l f):=by
 cases c;exact aD0 l;exact jF (λx _=>Bool.true_and _)
theorem dI9(f:α->β->Bool)(m:List β):∀l:List α,xr l (λx=>xr m (f x))=xr m (λy=>xr l (λx=>f x y))
 | [] =>(aD0 m).symm
 |x::l=>by
  rw[nS,dI9 f m l,<-cA9];grind [jF,nS]
theorem cW9(g:β->α)(f:α->Bool):∀l:List β,xr (l.map g) f=xr l (λx=>f (g x))
 | [] =>rfl
 |x::l=>by rw[PW,nS,nS,cW9 g f l]
end
def par(p:Vc)(l:List Sg):Bool:=xr l (λe=>decB (ray e p))
theorem dZ6{p q:Prop}(h:p↔q):decB p=decB q:=fQ h
def fA6{p q:Vc}{e:Sg}(a:p.2<=q.2)(h:Sep p q e):(decB (ray e p)^^decB (ray e q))=(decB (inRt p q e.1)^^decB (inRt p q e.2)):=by
 have k:=eT3 a h;grind
def dD(v:Nat->Vc)(n:Nat):List Sg:=(List.range n).map λi=>(v (i% n),v ((i+1)% n))
def dL9:∀a b c d x y z:Bool,(a^^b)=(x^^y)->(c^^d)=(y^^z)->((a^^c)^^(b^^d))=(x^^z):=Ai
def cF0{p q:Vc}(a:p.2<=q.2)(u:Nat->Vc):∀k,(∀i,i<k->Sep p q (u i,u (i+1)))->
 (par p ((List.range k).map λi=>(u i,u (i+1)))^^par q ((List.range k).map λi=>(u i,u (i+1))))=(decB (inRt p q (u 0))^^decB (inRt p q (u k)))
 |0,_=>by
  show(false^^false)=_;cases decB (inRt p q (u 0))<;>rfl
 |k+1,h=>by
  have c:=cF0 a u k (λi hi=>h i Aa);have b:=fA6 a (h k Aa);rw[List.range_succ,Qa];unfold par at*;rw[cY7,cY7];refine dL9 _ _ _ _ _ _ _ c ?_;rw[<-b];show(((decB (ray (u k,u (k+1)) p))^^false)^^((decB (ray (u k,u (k+1)) q))^^false))=_;rw[Bool.xor_false,Bool.xor_false]
def eN7:∀a b c:Bool,(a^^b)=(c^^c)->a=b:=Ai
theorem eE9{p q:Vc}(a:p.2<=q.2)(v:Nat->Vc)(n:Nat)(h:∀e∈dD v n,Sep p q e):par p (dD v n)=par q (dD v n):=by
 have k:=cF0 a (λi=>v (i% n)) n (λi hi=>h _ (PI.2 ⟨i,Qh.2 hi,rfl⟩));have e:v (n% n)=v (0% n):=by rw[Nat.mod_self,Nat.zero_mod]
 simp only[e]at k;exact eN7 _ _ _ k
def dT7{p q:Vc}(v:Nat->Vc)(n:Nat)(h:∀e∈dD v n,Sep p q e):par p (dD v n)=par q (dD v n):=by
 grind [Int.le_total,eE9,dW0]
def mulV(N:Int)(v:Vc):Vc:=(N*v.1,N*v.2)
def mulS(N:Int)(e:Sg):Sg:=(mulV N e.1,mulV N e.2)
theorem bQ3(N:Int)(v:Nat->Vc)(n:Nat):dD (λi=>mulV N (v i)) n=(dD v n).map (mulS N):=by
 unfold dD;rw[Sr];rfl
def cG9(N:Int)(a b c d:Vc):X (dif (mulV N a) (mulV N b)) (dif (mulV N c) (mulV N d))=N*N*X (dif a b) (dif c d):=by
 unfold X dif mulV;simp only;grind
def sq_pos{N:Int}(a:0<N):0<N*N:=Int.mul_pos a a
def aM0{N x y:Int}(a:0<N)(h:y=N*x):(0<y↔0<x)/\(y<0↔x<0)/\(y=0↔x=0):=by
 have s:=sgn N x;rw[<-h]at s;omega
theorem le_mul{N a b:Int}(c:0<N):(N*a<=N*b↔a<=b)/\(N*a<N*b↔a<b):=
 ⟨⟨λh=>Int.le_of_mul_le_mul_left h c,λh=>Int.mul_le_mul_of_nonneg_left h Aa⟩,⟨λh=>Int.lt_of_mul_lt_mul_left h Aa,λh=>Int.mul_lt_mul_of_pos_left h c⟩⟩
theorem eL6{N:Int}(a:0<N)(e:Sg)(p:Vc):ray (mulS N e) (mulV N p)↔ray e p:=by
 unfold ray rayC;have k:=aM0 (sq_pos a) (cG9 N e.2 e.1 p e.1);show(N*e.1.2<=N*p.2/\N*p.2<N*e.2.2/\0<X (dif (mulV N e.2) (mulV N e.1)) (dif (mulV N p) (mulV N e.1)))\/(N*e.2.2<=N*p.2/\N*p.2<N*e.1.2/\X (dif (mulV N e.2) (mulV N e.1)) (dif (mulV N p) (mulV N e.1))<0)↔_;simp_all
def dD0{N:Int}(a:0<N)(p:Vc)(l:List Sg):par (mulV N p) (l.map (mulS N))=par p l:=by
 grind [cW9,jF,dZ6,eL6,par]
def eQ5{N:Int}(a:0<N){p q:Vc}{e:Sg}(h:Sep p q e):Sep (mulV N p) (mulV N q) (mulS N e):=by
 have b:=aM0 (sq_pos a) (cG9 N q p e.1 p);have c:=aM0 (sq_pos a) (cG9 N q p e.2 p);have d:=aM0 (sq_pos a) (cG9 N e.2 e.1 p e.1);have f:=aM0 (sq_pos a) (cG9 N e.2 e.1 q e.1);grind [Sep,mulS]
def cE3{N M k:Int}(a:0<M){c d z:Vc}(v:Nat->Vc)(n:Nat)(f:Onp N k (mulV M c) (mulV M d) z)(h:∀e∈dD v n,Sep c d e):
 par z ((dD v n).map (mulS M))=par d (dD v n):=by
 by_cases j:k=N
 ·subst j
  rw[eN3 f,dD0 a]
 ·rw[<-dD0 a d,<-bQ3]
  refine dT7 _ n (λe g=>?_);rw[bQ3]at g;obtain⟨i,b,rfl⟩:=PI.1 g;exact eL1 f (by have:=f.hi;omega) (eQ5 a (h i b))
theorem aN8(v:Vc):mulV 1 v=v:=by unfold mulV;rw[Int.one_mul,Int.one_mul]
theorem eD5(e:Sg):mulS 1 e=e:=by unfold mulS;rw[aN8,aN8]
def eY9{N k:Int}{c d z:Vc}(v:Nat->Vc)(n:Nat)(a:Onp N k c d z)(h:∀e∈dD v n,Sep c d e):
 par z (dD v n)=par d (dD v n):=by
 have e:(dD v n).map (mulS 1)=dD v n:=by
  grind [List.map_id,Ru,eD5,dD]
 have:=cE3 (M:=1) Ai v n (by rw[aN8,aN8];exact a) h;rw[e]at this;exact this
def dH1{p:Vc}{l:List Sg}(h:∀e∈l,e.1.2<=p.2/\e.2.2<=p.2):par p l=false:=by
 grind [aD0,jF,dW,par,ray,rayC]
def mZ(e:Sg)(h:Int):Prop:=(e.1.2<=h/\h<e.2.2)\/(e.2.2<=h/\h<e.1.2)
def pN(e:Sg):Int:=if e.1.2<e.2.2 then e.2.2-e.1.2 else e.1.2-e.2.2
def pK(e:Sg)(h:Int):Int:=if e.1.2<e.2.2 then h-e.1.2 else e.1.2-h
def pX(e:Sg)(h:Int):Int:=pN e*e.1.1+pK e h*(e.2.1-e.1.1)
def aO5{e:Sg}{h:Int}(a:mZ e h):0<pN e/\0<=pK e h/\pK e h<=pN e/\pN e*(h-e.1.2)=pK e h*(e.2.2-e.1.2):=by
 unfold mZ at a;unfold pN pK;grind
theorem aQ3{e:Sg}{p:Vc}:ray e p↔mZ e p.2/\pN e*p.1<pX e p.2:=by
 unfold ray rayC mZ pX pN pK;by_cases h:e.1.2<e.2.2;rw[Pm h,Pm h];have k:X (dif e.2 e.1) (dif p e.1)=(e.2.2-e.1.2)*e.1.1+(p.2-e.1.2)*(e.2.1-e.1.1)- (e.2.2-e.1.2)*p.1:=BM;omega;rw[Ph h,Ph h];have k:X (dif e.2 e.1) (dif p e.1)=(e.1.2-e.2.2)*p.1- ((e.1.2-e.2.2)*e.1.1+(e.1.2-p.2)*(e.2.1-e.1.1)):=BM;omega
def aft(h:Int)(f g:Sg):Prop:=mZ g h/\pN g*pX f h<pN f*pX g h
theorem dU4{N:Int}(a:0<N)(e:Sg):pN (mulS N e)=N*pN e:=by
 unfold pN mulS mulV;exact NE
theorem eZ8{N:Int}(a:0<N)(e:Sg)(h:Int):pK (mulS N e) (N*h)=N*pK e h:=by
 unfold pK mulS mulV;exact NE
theorem eZ5{N:Int}(a:0<N)(e:Sg)(h:Int):pX (mulS N e) (N*h)=N*(N*pX e h):=by
 grind [dU4,eZ8,pX,mulS,mulV]
theorem dK4{N:Int}(a:0<N)(e:Sg)(h:Int):mZ (mulS N e) (N*h)↔mZ e h:=by
 unfold mZ mulS mulV;simp_all
def pZ(f:Sg)(h:Int):Vc:=(pX f h,pN f*h)
theorem eQ0{h:Int}{f g:Sg}(a:mZ f h):ray (mulS (pN f) g) (pZ f h)↔aft h f g:=by
 have b:=(aO5 a).1;simp_all [aQ3,dK4,dU4,eZ5,Int.mul_assoc,le_mul,pZ,aft]
def pZ_on{h:Int}{f:Sg}(a:mZ f h):Onp (pN f) (pK f h) (mulV (pN f) f.1) (mulV (pN f) f.2) (pZ f h):=by
 obtain⟨b,c,d,e⟩:=aO5 a;refine⟨b,c,d,?_,?_⟩;unfold mulV pZ pX;simp only;grind;grind [Int.mul_sub,Int.mul_assoc,Int.mul_comm,mulV,pZ,pN]
def dC1{h:Int}{f:Sg}(a:mZ f h)(v:Nat->Vc)(n:Nat)(b:∀g∈dD v n,Sep f.1 f.2 g):
 xr (dD v n) (λg=>decB (aft h f g))=par f.2 (dD v n):=by
 rw[<-cE3 (aO5 a).1 v n (pZ_on a) b];grind [cW9,jF,dZ6,eQ0,par]
def dJ0{m k y z:Int}(c:0<=m)(b:0<=k)(a:0<m+k)(h:m*y+k*z=0):¬(0<y/\0<z)/\¬(y<0/\z<0):=by
 have d:=sgn m y;have e:=sgn k z;grind
def fB7{h:Int}{f g:Sg}(e:bI f)(j:bI g)(c:mZ f h)(i:mZ g h)(F:dG f g=0):pN g*pX f h≠pN f*pX g h:=by
 intro E;obtain⟨w,x,Q,R⟩:=aO5 c;obtain⟨y,z,S,T⟩:=aO5 i
 have l:f.1≠f.2:=by
  intro q;unfold mZ at c;rw[q]at c;omega
 have m:g.1≠g.2:=by
  intro q;unfold mZ at i;rw[q]at i;omega
 have G:=rC e j l F;unfold pX at E
 have D:(pN g-pK g h)*X (dif f.2 f.1) (dif g.1 f.1)+pK g h*X (dif f.2 f.1) (dif g.2 f.1)=0:=by
  have:pN f*((pN g-pK g h)*X (dif f.2 f.1) (dif g.1 f.1)+pK g h*X (dif f.2 f.1) (dif g.2 f.1))=0:=by
   unfold X dif;simp only;grind
  grind [Int.mul_eq_zero]
 have C:(pN f-pK f h)*X (dif g.2 g.1) (dif f.1 g.1)+pK f h*X (dif g.2 g.1) (dif f.2 g.1)=0:=by
  have:pN g*((pN f-pK f h)*X (dif g.2 g.1) (dif f.1 g.1)+pK f h*X (dif g.2 g.1) (dif f.2 g.1))=0:=by
   unfold X dif;simp only;grind
  grind [Int.mul_eq_zero]
 have r:=dJ0 Aa z Aa D;have s:=dJ0 Aa x Aa C;rcases G with q|q|q|q|⟨H,I,J,K⟩;exact r.1 q;exact r.2 q;exact s.1 q;exact s.2 q
 have key:∃p,uH f g p/\Com f g p:=by
  have a:∀p:Vc,X (dif f.2 f.1) (dif p f.1)=0->min f.1.2 f.2.2<=p.2->p.2<=h->eX f p:=λp hx A B=>by
   rw[gZ e];refine⟨(nO (d:=pN f) (k:=pK f p.2) (u:=f.1) (v:=f.2) (p:=p) w ?_ ?_ l).2 ?_,hx⟩;unfold mZ at c;exact O3;unfold mZ at c;unfold pN pK;split<;>grind;unfold mZ at c;unfold pN pK;split<;>omega
  have b:∀p:Vc,X (dif g.2 g.1) (dif p g.1)=0->min g.1.2 g.2.2<=p.2->p.2<=h->eX g p:=λp hx A B=>by
   rw[gZ j];refine⟨(nO (d:=pN g) (k:=pK g p.2) (u:=g.1) (v:=g.2) (p:=p) y ?_ ?_ m).2 ?_,hx⟩;unfold mZ at i;exact O3;unfold mZ at i;unfold pN pK;split<;>grind;unfold mZ at i;unfold pN pK;split<;>omega
  have L:X (dif f.2 f.1) (dif f.1 f.1)=0:=by unfold X dif;simp
  have M:X (dif f.2 f.1) (dif f.2 f.1)=0:=EH;have N:X (dif g.2 g.1) (dif g.1 g.1)=0:=by unfold X dif;simp
  have O:X (dif g.2 g.1) (dif g.2 g.1)=0:=EH;have n:=c;have o:=i;unfold mZ at n o;by_cases P:min g.1.2 g.2.2<=min f.1.2 f.2.2;by_cases t:f.1.2<f.2.2;exact⟨f.1, .inl rfl,a _ L Aa Aa,b _ J Aa Aa⟩;exact⟨f.2, .inr (.inl rfl),a _ M Aa Aa,b _ K Aa Aa⟩;by_cases t:g.1.2<g.2.2;exact⟨g.1, .inr (.inr (.inl rfl)),a _ H Aa Aa,b _ N Aa Aa⟩;exact⟨g.2, .inr (.inr (.inr rfl)),a _ I Aa Aa,b _ O Aa Aa⟩
 have:=(tells e j).touch.1 key;omega
def bool_split(a b x y:Bool)(h:a=true->b=true->(x^^y)=true):(a&&b)=((a&& (b&&x))^^(b&& (a&&y))):=by
 grind
def aH5{a b c n m k:Int}(j:0<n)(f:0<m)(e:n*a<b)(i:m*b<n*c):m*a<c:=by
 have g:m*(n*a)<m*b:=Int.mul_lt_mul_of_pos_left e f;have d:n*(m*a)<n*c:=by rw[Int.mul_left_comm];omega
 exact Int.lt_of_mul_lt_mul_left d Aa
def cT7{p:Vc}{b vh:Nat->Vc}{a nh:Nat}(l:∀g∈dD b a,bI g)(j:∀f∈dD vh nh,bI f)
 (t:∀f∈dD vh nh,∀g∈dD b a,dG f g=0/\dG g f=0)(u:∀f∈dD vh nh,f.1≠f.2)(v:∀g∈dD b a,g.1≠g.2)
 (r:∀f∈dD vh nh,par f.2 (dD b a)=true)(o:∀g∈dD b a,par g.2 (dD vh nh)=false)
 (w:par p (dD vh nh)=true):par p (dD b a)=true:=by
 have B:∀f∈dD vh nh,decB (ray f p)=true->xr (dD b a) (λg=>decB (ray g p)&&decB (aft p.2 f g))=true:=λf c i=>by
  rw[dH,aQ3]at i;rw[<-r f c,<-dC1 i.1 b a (λg d=>rC (j f c) (l g d) (u f c) (t f c g d).1)];refine jF (λg d=>?_);by_cases e:aft p.2 f g;have:ray g p:=aQ3.2 ⟨e.1,aH5 (k:=0) (aO5 i.1).1 (aO5 e.1).1 i.2 e.2⟩;rw[dH.2 e,dH.2 this];rfl;rw[dW.2 e,Bool.and_false]
 have C:∀g∈dD b a,decB (ray g p)=true->xr (dD vh nh) (λf=>decB (ray f p)&&decB (aft p.2 g f))=false:=λg d i=>by
  rw[dH,aQ3]at i;rw[<-o g d,<-dC1 i.1 vh nh (λf c=>rC (l g d) (j f c) (v g d) (t f c g d).2)];refine jF (λf c=>?_);by_cases e:aft p.2 g f;have:ray f p:=aQ3.2 ⟨e.1,aH5 (k:=0) (aO5 i.1).1 (aO5 e.1).1 i.2 e.2⟩;rw[dH.2 e,dH.2 this];rfl;rw[dW.2 e,Bool.and_false]
 have A:∀f∈dD vh nh,∀g∈dD b a,decB (ray f p)=true->decB (ray g p)=true->(decB (aft p.2 f g)^^decB (aft p.2 g f))=true:=λf c g d m n=>by
  rw[dH,aQ3]at m n;have z:=fB7 (j f c) (l g d) m.1 n.1 (t f c g d).1;by_cases s:pN g*pX f p.2<pN f*pX g p.2;grind [dH,dW,aft];rw[dW.2 (show¬aft p.2 f g from λq=>s q.2),dH.2 (show aft p.2 g f from⟨m.1,Aa⟩)];rfl
 have m:xr (dD vh nh) (λf=>xr (dD b a) (λg=>decB (ray f p)&&decB (ray g p)))=par p (dD b a):=by
  rw[jF (g:=λf=>decB (ray f p)&&par p (dD b a)) (λf _=>bW6 _ _ _)];rw[jF (g:=λf=>par p (dD b a)&&decB (ray f p)) (λf _=>Bool.and_comm _ _),bW6];show(par p (dD b a)&&par p (dD vh nh))=_;rw[w,Bool.and_true]
 have n:xr (dD vh nh) (λf=>xr (dD b a) (λg=>decB (ray f p)&&decB (ray g p)))=
  (xr (dD vh nh) (λf=>xr (dD b a) (λg=>decB (ray f p)&& (decB (ray g p)&&decB (aft p.2 f g))))^^xr (dD vh nh) (λf=>xr (dD b a) (λg=>decB (ray g p)&& (decB (ray f p)&&decB (aft p.2 g f))))):=by
  rw[<-cA9];refine jF (λf c=>?_);rw[<-cA9];exact jF (λg d=>bool_split _ _ _ _ (A f c g d))
 have x:xr (dD vh nh) (λf=>xr (dD b a) (λg=>decB (ray f p)&& (decB (ray g p)&&decB (aft p.2 f g))))=true:=by
  rw[jF (g:=λf=>decB (ray f p)) (λf c=>?_)];exact w;simp_all [bW6]
 have y:xr (dD vh nh) (λf=>xr (dD b a) (λg=>decB (ray g p)&& (decB (ray f p)&&decB (aft p.2 g f))))=false:=by
  rw[dI9,<-aD0 (dD b a)];refine jF (λg d=>?_);simp_all [bW6]
 rw[x,y]at n;rw[<-m,n];rfl
end Go.Proofs.Led
