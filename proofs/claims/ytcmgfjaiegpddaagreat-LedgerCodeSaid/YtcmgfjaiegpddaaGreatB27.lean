/- Lemmas. -/
import Derived.Test.YtcmgfjaiegpddaaGreatB26
set_option linter.all false
set_option maxRecDepth 100000
set_option maxHeartbeats 8000000
noncomputable section
namespace Go.Proofs.Led
open Go Go.Proofs Go.Ab
theorem fF3{r:Rg}(h:3<=r.length){i:Nat}(hi:i<r.length):aJ4 r i∈bF r:=(bC9 h).2 ⟨i,hi,rfl⟩
theorem fP4{r:Rg}{i:Nat}(hi:i+1<r.length):iU r i=r.getD (i+1) z0:=by unfold iU;rw[Nat.mod_eq_of_lt hi]
def fJ5{r:Rg}(h:0<r.length):iU r (r.length-1)=r.getD 0 z0:=by unfold iU;rw[show r.length-1+1=r.length by omega,Nat.mod_self]
def fK4{r:Rg}(h:dM r){i k:Nat}(g:i<k)(b:k<r.length){p:Vc}(l:eX (aJ4 r i) p)(m:eX (aJ4 r k) p):
 (k=i+1/\p=iU r i)\/(i=0/\k=r.length-1/\p=r.getD 0 z0):=by
 have f:=h.1;have c:=h.2.2.1;have o:=fU3.1 h.2.2.2.2.1;have o1:=jO c (fF3 f (show i<r.length from Aa));have o2:=jO c (fF3 f b);have n:=(fR4.1 h).2.2.2.2.1 i k g b;have a:∀j,Sm4 (r.getD (j% r.length) z0):=λj=>vN c (aE1 (TM _ Aa));unfold fM5 at n;rw[fH0 f Aa,fH0 f b]at n;by_cases u:adj r.length i k
 ·rcases u with rfl|⟨rfl,rfl⟩
  ·left
   refine⟨rfl,?_⟩;have d:=fH4 (vN c (aE1 (show i<r.length from Aa))) (a (i+1)) (a (i+2)) (o i Aa);refine eO4 o1 o2 ?_ ⟨l,m⟩ ⟨cN1 o1,?_⟩
   ·show X (dif (iU r i) (r.getD i z0)) (dif (iU r (i+1)) (r.getD (i+1) z0))≠0
    unfold iU;rw[Nat.mod_eq_of_lt b]at d⊢;exact d
   ·have e:(aJ4 r (i+1)).1=iU r i:=(fP4 b).symm
    show eX (aJ4 r (i+1)) (iU r i);rw[<-e];exact rH o2
  ·right
   refine⟨rfl,rfl,?_⟩;have d:=fH4 (vN c (aE1 b)) (a (r.length-1+1)) (a (r.length-1+2)) (o (r.length-1) b);have s:(r.length-1+1)% r.length=0:=EJ;have t:(r.length-1+2)% r.length=1:=BV;rw[s,t]at d;refine eO4 o1 o2 ?_ ⟨l,m⟩ ⟨rH o1,?_⟩
   ·show X (dif (iU r 0) (r.getD 0 z0)) (dif (iU r (r.length-1)) (r.getD (r.length-1) z0))≠0
    rw[fP4 (show 0+1<r.length from Aa),fJ5 Aa];intro q;apply d;rw[eB7,q];rfl
   ·have e:(aJ4 r (r.length-1)).2=r.getD 0 z0:=fJ5 Aa
    show eX (aJ4 r (r.length-1)) (r.getD 0 z0);rw[<-e];exact cN1 o2
 ·grind [eZ7,aG8,fF3]
def Vtx(r:Rg)(p:Vc)(j:Nat):Prop:=j<r.length/\r.getD j z0=p
def Edg(r:Rg)(p:Vc)(j:Nat):Prop:=j<r.length/\r.getD j z0≠p/\iU r j≠p/\eX (aJ4 r j) p
def fF1{r:Rg}(h:dM r){i:Nat}(hi:i<r.length):r.getD i z0≠iU r i:=aG8 h (fF3 h.1 hi)
def fQ2{r:Rg}(h:dM r){p:Vc}{j:Nat}(a:Vtx r p j):eX (aJ4 r j) p:=by
 have:=rH (jO h.2.2.1 (fF3 h.1 a.1));rw[<-a.2];exact this
theorem gH3{r:Rg}(h:dM r){p:Vc}{i j:Nat}(hi:Vtx r p i)(a:Vtx r p j)(b:i<j):False:=by
 rcases fK4 h b a.1 (fQ2 h hi) (fQ2 h a)with⟨e,q⟩|⟨d,c,q⟩;exact fF1 h hi.1 (hi.2.trans q);have:=fF1 h a.1;rw[c,fJ5 (by have:=h.1;omega),<-q,<-c]at this;exact this a.2
def gF4{r:Rg}(h:dM r){p:Vc}{i j:Nat}(hi:Vtx r p i)(a:Vtx r p j):i=j:=by
 grind [UZ,gH3]
def fU6{r:Rg}(h:dM r){p:Vc}{j m:Nat}(b:Vtx r p j)(a:Edg r p m):False:=by
 rcases UZ j m with q|q|q;rcases fK4 h q a.1 (fQ2 h b) a.2.2.2 with⟨e,k⟩|⟨c,d,k⟩;subst e;rw[fP4 a.1]at k;exact a.2.1 k.symm;have:=a.2.2.1;rw[d,fJ5 (by have:=h.1;omega)]at this;exact this k.symm;subst q;exact a.2.1 b.2;rcases fK4 h q b.1 a.2.2.2 (fQ2 h b)with⟨e,k⟩|⟨c,d,k⟩;exact a.2.2.1 k.symm;subst c;exact a.2.1 k.symm
theorem gH1{r:Rg}(h:dM r){p:Vc}{i m:Nat}(hi:Edg r p i)(a:Edg r p m)(q:i<m):False:=by
 rcases fK4 h q a.1 hi.2.2.2 a.2.2.2 with⟨e,k⟩|⟨b,c,k⟩;exact hi.2.2.1 k.symm;subst b;exact hi.2.1 k.symm
def gF3{r:Rg}(h:dM r){p:Vc}{i j:Nat}(hi:Edg r p i)(a:Edg r p j):i=j:=by
 grind [UZ,gH1]
def fE8(i:Nat)(x:Sg):Sg:=if 0<i then(x.2,x.1)else x
def vSec(r:Rg)(p:Vc)(j:Nat):Sg:=(vsub (iU r j) p,vsub (mY r j) p)
def eSec(r:Rg)(m:Nat):Sg:=(vsub (iU r m) (r.getD m z0),vsub (r.getD m z0) (iU r m))
def Sec(i:Nat)(r:Rg)(p:Vc)(x:Sg):Prop:=(∃j,Vtx r p j/\x=fE8 i (vSec r p j))\/(∃m,Edg r p m/\DirS x (fE8 i (eSec r m))/\SmV x.1/\SmV x.2)
open Classical in
def secV(i:Nat)(r:Rg)(p:Vc)(k:Nat):Option Sg:=
 if iU r k=p then some (fE8 i (vsub (r.getD ((k+2)% r.length) z0) p,vsub (r.getD k z0) p))
 else if r.getD k z0≠p/\eX (r.getD k z0,iU r k) p then some (fE8 i (eSec r k))else none
def secR(i:Nat)(r:Rg)(p:Vc):Option Sg:=(List.range r.length).findSome? (secV i r p)
def secL(p:Vc):Nat->List Rg->Option Sg
 |_,[] =>none
 |i,r::R=>(secR i r p).or (secL p (i+1) R)
theorem fE0{a b:Vc}(c:Sm4 a)(d:Sm4 b):vsub a b=dif a b:=by
 unfold Sm4 at*;exact kN ⟨Aa,Aa⟩ ⟨Aa,Aa⟩
theorem fE3{a b:Vc}(c:Sm4 a)(d:Sm4 b):SmV (vsub a b):=by
 grind [fE0,Sm4,SmV,Sm,dif]
def fM9{a b:Vc}(h:a≠b):dif a b≠(0,0):=bZ7 (λe=>h e.symm)
def gA0{a b p:Vc}(c:Sm4 a)(d:Sm4 b)(l:Sm4 p)(e:a≠b)(r:a≠p)(t:b≠p)(f:eX (a,b) p):Dir (vsub b p) (vsub b a)/\Dir (vsub a p) (vsub a b):=by
 obtain⟨N,k,j,m,n,g,i⟩:=cX7 (s:=(a,b)) (jP.2 ⟨c,d⟩) e f;rw[fE0 d l,fE0 d c,fE0 c l,fE0 c d];simp only at g i
 have u:k≠0:=by
  intro q;rw[q,Int.zero_mul]at g i;grind [Int.mul_eq_zero]
 have o:k≠N:=by
  grind [Int.eq_of_mul_eq_mul_left]
 refine⟨⟨N,N-k,j,Aa,?_,?_⟩,⟨N,k,j,Aa,?_,?_⟩⟩<;>(unfold dif;simp only;grind)
def fY8{r:Rg}{i:Nat}(h:i<r.length):mY r i∈r:=aE1 (TM _ Aa)
def fX3{a b p:Vc}(h:eX (a,b) p):eX (b,a) p:=by
 have c:=h.1;have d:bI (b,a):=⟨c.2,c.1⟩;rw[gZ d];obtain⟨e,f⟩:=(gZ c).1 h;refine⟨?_,?_⟩;unfold Bb at*;simp only at*;omega;unfold X dif at*;simp only at*;grind
def fN6{r:Rg}{k:Nat}(a:k<r.length):∃m,m<r.length/\mY r k=r.getD m z0/\iU r m=r.getD k z0:=by
 by_cases h:k=0;subst h;refine⟨r.length-1,Aa,?_,fJ5 Aa⟩;unfold mY;simp_all;refine⟨k-1,Aa,?_,?_⟩;unfold mY;rw[show k+r.length-1=(k-1)+r.length from Aa,Nat.add_mod_right,Nat.mod_eq_of_lt Aa];grind [fP4]
def gA6{i:Nat}{r:Rg}(h:dM r){p:Vc}(c:Sm4 p){k:Nat}(b:k<r.length){x:Sg}(d:dJ i r p k=some x):Sec i r p x:=by
 have g:=h.2.2.1;have j:=vN g (aE1 b);have t:=vN g (bA6 b);have w:=vN g (fY8 b);unfold dJ at d;split at d;rename_i hv;cases d;refine .inl ⟨k,⟨b,hv⟩,?_⟩;unfold fE8 vSec arN arL;split<;>rfl;rename_i hv;split at d;rename_i a;cases d;right;by_cases f:0<i;have l:arN i r k=mY r k:=Sj f;rw[l]at a⊢;obtain⟨m,o,v,e⟩:=fN6 b;rw[v]at a⊢;have u:=vN g (aE1 o);refine⟨m,⟨o,a.1,by rw[e];exact hv,by show eX (r.getD m z0,iU r m) p;rw[e];exact fX3 a.2⟩,?_,fE3 u c,fE3 j c⟩;have s:r.getD m z0≠r.getD k z0:=by rw[<-e];exact fF1 h o
 have n:=gA0 j u c (λq=>s q.symm) hv a.1 a.2;unfold fE8 eSec;rw[Sj f,e];exact n;have l:arN i r k=iU r k:=RZ f;rw[l]at a⊢;refine⟨k,⟨b,hv,a.1,a.2⟩,?_,fE3 t c,fE3 j c⟩;have n:=gA0 j t c (fF1 h b) hv a.1 a.2;unfold fE8 eSec;rw[RZ f];exact n;cases d
def gH9{i:Nat}{r:Rg}(h:dM r){p:Vc}(e:Sm4 p){k:Nat}(b:k<r.length){x:Sg}(a:secV i r p k=some x):Sec i r p x:=by
 have d:=h.2.2.1;have f:=vN d (aE1 b);have g:=vN d (bA6 b);unfold secV at a;split at a;rename_i hv;cases a;refine .inl ⟨(k+1)% r.length,⟨TM _ Aa,hv⟩,?_⟩;simp_all [Nat.mod_add_mod,fN2,vSec,iU,mY];rename_i hv;split at a;rename_i c;cases a;refine .inr ⟨k,⟨b,c.1,hv,c.2⟩,⟨dir_refl _,dir_refl _⟩,?_,?_⟩;grind [fE3,fE8,eSec];grind [fE3,fE8,eSec];cases a
def gF0{i:Nat}{r:Rg}(h:dM r){p:Vc}{x:Sg}(f:Sec i r p x):(∃j,Vtx r p j/\∀y,Sec i r p y->y=fE8 i (vSec r p j))\/(∃m,Edg r p m/\∀y,Sec i r p y->DirS y (fE8 i (eSec r m))):=by
 rcases f with⟨j,c,_⟩|⟨m,b,_⟩;left;refine⟨j,c,λy e=>?_⟩;rcases e with⟨g,a,q⟩|⟨m,b,_⟩;rw[gF4 h c a];exact q;exact(fU6 h c b).elim;right;refine⟨m,b,λy e=>?_⟩;rcases e with⟨g,a,_⟩|⟨k,d,q,_⟩;exact(fU6 h a b).elim;rw[gF3 h b d];exact q
def stdS(i:Nat)(r:Rg)(p:Vc)(z:Sg):Prop:=SecG z/\∀y,Sec i r p y->DirS y z/\SmV y.1/\SmV y.2
def fS8{x:Sg}(h:SecG x):SecG (x.2,x.1):=⟨h.s2,h.s1,h.n2,h.n1,λq=>h.ne (by rw[eB7,dH3];exact⟨by have:=q.1;simp only at this;omega,q.2⟩)⟩
def fR0{x:Sg}(i:Nat)(h:SecG x):SecG (fE8 i x):=by
 unfold fE8;split;exact fS8 h;exact h
def gF5{i:Nat}{r:Rg}(h:dM r){p:Vc}(d:Sm4 p){x:Sg}(C:Sec i r p x):∃z,stdS i r p z:=by
 have n:=h.2.2.1;rcases gF0 h C with⟨j,b,t⟩|⟨m,f,t⟩;have a:=vN n (bA6 b.1);have o:=vN n (fY8 b.1)
 have k:SecG (fE8 i (vSec r p j)):=by
  refine fR0 i ⟨fE3 a d,fE3 o d,?_,?_,?_⟩;show vsub (iU r j) p≠(0,0);rw[fE0 a d,<-b.2];exact fM9 (λq=>fF1 h b.1 q.symm);show vsub (mY r j) p≠(0,0);obtain⟨m,f,w,A⟩:=fN6 b.1;rw[fE0 o d,<-b.2,w,<-A];exact fM9 (fF1 h f);show¬(X (vsub (iU r j) p) (vsub (mY r j) p)=0/\_);rw[fE0 a d,fE0 o d];rintro⟨q,_⟩;have v:=h.2.2.2.2.1 j b.1;rw[b.2,zH o d a,tC]at v;apply v;unfold X dif at*;simp only at*;grind
 exact⟨_,k,λy l=>by rw[t y l];exact⟨⟨dir_refl _,dir_refl _⟩,k.s1,k.s2⟩⟩;have g:=vN n (aE1 f.1);have a:=vN n (bA6 f.1);have c:=fF1 h f.1
 have k:SecG (fE8 i (eSec r m)):=by
  refine fR0 i ⟨fE3 a g,fE3 g a,?_,?_,?_⟩;show vsub _ _≠(0,0);rw[fE0 a g];exact fM9 (λq=>c q.symm);show vsub _ _≠(0,0);rw[fE0 g a];exact fM9 c;show¬(_/\0<=Dt (vsub _ _) (vsub _ _));rw[fE0 a g,fE0 g a];rintro⟨_,q⟩;have u:=cY3 (fM9 (λq=>c q.symm):dif (iU r m) (r.getD m z0)≠(0,0));have e:Dt (dif (iU r m) (r.getD m z0)) (dif (r.getD m z0) (iU r m))= -Dt (dif (iU r m) (r.getD m z0)) (dif (iU r m) (r.getD m z0)):=by unfold Dt dif;simp only;grind
  omega
 refine⟨_,k,λy l=>⟨t y l,?_⟩⟩;rcases l with⟨D,s,_⟩|⟨E,B,_,q⟩;exact(fU6 h s f).elim;exact q
def fE5{f:Nat->Option Sg}{n:Nat}:((List.range n).findSome? f=none↔∀k:Nat,k<n->f k=none)/\∀x,(List.range n).findSome? f=some x->∃k:Nat,k<n/\f k=some x:=by
 constructor;simp_all;intro x h;obtain⟨k,a,q⟩:=List.exists_of_findSome?_eq_some h;exact⟨k,TN.1 a,q⟩
theorem fI4{i:Nat}{r:Rg}(h:dM r){p:Vc}(b:Sm4 p){x:Sg}(c:qY i r p=some x):Sec i r p x:=by
 obtain⟨k,a,q⟩:=fE5.2 x c;exact gA6 h b a q
theorem fY6{i:Nat}{r:Rg}(h:dM r){p:Vc}(b:Sm4 p){x:Sg}(c:secR i r p=some x):Sec i r p x:=by
 obtain⟨k,a,q⟩:=fE5.2 x c;exact gH9 h b a q
def gG0{i:Nat}{r:Rg}(h:dM r){p:Vc}{x:Sg}(c:Sec i r p x):onR r p:=by
 rcases c with⟨j,a,_⟩|⟨m,b,_⟩;exact⟨aJ4 r j,fF3 h.1 a.1,fQ2 h a⟩;exact⟨aJ4 r m,fF3 h.1 b.1,b.2.2.2⟩
def gI2{i:Nat}{r:Rg}(h:dM r){p:Vc}(c:onR r p):secR i r p≠none:=by
 obtain⟨e,j,q⟩:=c;obtain⟨k,d,rfl⟩:=(bC9 h.1).1 j;intro b;have a:=fE5.1.1 b k d;unfold secV at a;split at a;cases a;rename_i t;split at a;cases a;rename_i g
 have u:r.getD k z0=p:=by
  by_cases f:r.getD k z0=p;exact f;exact absurd ⟨f,q⟩ g
 obtain⟨m,l,o,s⟩:=fN6 d;have n:=fE5.1.1 b m l;simp_all [Sj,secV]
def gB1{i:Nat}{r:Rg}(h:dM r){p:Vc}(f:onR r p):qY i r p≠none:=by
 obtain⟨e,l,q⟩:=f;obtain⟨k,c,rfl⟩:=(bC9 h.1).1 l;intro b
 have key:∀k,k<r.length->r.getD k z0≠p:=λk c m=>by
  have a:=fE5.1.1 b k c;simp_all [Sj,dJ]
 by_cases j:0<i;have g:(k+1)% r.length<r.length:=TM _ Aa;have a:=fE5.1.1 b _ g
 have d:arN i r ((k+1)% r.length)=r.getD k z0:=by
  simp_all [Sj,fN2,arN,mY]
 unfold dJ at a;rw[RZ (key _ g),d,Sj ⟨key k c,fX3 q⟩]at a;cases a;have a:=fE5.1.1 b k c;have d:arN i r k=iU r k:=RZ j;unfold dJ at a;rw[RZ (key k c),d,Sj ⟨key _ (TM _ Aa),q⟩]at a;cases a
def fL4(l:List Rg):Prop:=(∀r∈l,dM r)/\∀(i j:Nat) (a b:Rg),i<j->l[i]? =some a->l[j]? =some b->Apart a b
def fO6{s:Sh}(e:bG s):fL4 (rings s):=by
 refine⟨e.2.1,λi j a b g c d=>?_⟩;unfold rings at c d;obtain⟨f,rfl⟩:∃f,j=f+1:=⟨j-1,Aa⟩;rw[TB]at d;cases i with
 |zero=>
  cases c;exact(bK4 e (Sl d)).1.symm
 |succ i=>
  rw[TB]at c;exact(cS9 e Aa c d).1.symm
def gA4{r:Rg}{l:List Rg}(h:fL4 (r::l)):fL4 l:=⟨λx hx=>h.1 x Ci,λi j a b e c d=>h.2 (i+1) (j+1) a b Aa (by rw[TB];exact c) (by rw[TB];exact d)⟩
def fH7{p:Vc}(c:Sm4 p):∀(l:List Rg) (i:Nat),fL4 l->
 ((∃r∈l,onR r p)->∃x y z,nR p i l=some x/\secL p i l=some y/\SecG z/\(DirS x z/\SmV x.1/\SmV x.2)/\(DirS y z/\SmV y.1/\SmV y.2))/\((¬∃r∈l,onR r p)->secL p i l=none)
 | [],i,_=>⟨(λ⟨r,b,_⟩=>by cases b),λ_=>rfl⟩
 |r::l,i,h=>by
  have b:=h.1 r Af;obtain⟨k,m⟩:=fH7 c l (i+1) (gA4 h);by_cases a:onR r p;refine⟨λ_=>?_,λq=>absurd ⟨r,Af,a⟩ q⟩;obtain⟨x,g⟩:=Option.ne_none_iff_exists'.1 (gB1 (i:=i) b a);obtain⟨y,s⟩:=Option.ne_none_iff_exists'.1 (gI2 (i:=i) b a);obtain⟨z,t,j⟩:=gF5 b c (fI4 b c g);grind [fI4,fY6,nR,secL]
  have n:qY i r p=none:=by
   cases d:qY i r p with
   |none=>rfl
   |some x=>exact absurd (gG0 b (fI4 b c d)) a
  have o:secR i r p=none:=by
   cases d:secR i r p with
   |none=>rfl
   |some x=>exact absurd (gG0 b (fY6 b c d)) a
  have e:nR p i (r::l)=nR p (i+1) l:=by rw[nR,n];rfl
  have f:secL p i (r::l)=secL p (i+1) l:=by rw[secL,o];rfl
  rw[e,f];grind
def fH8(c s:Sh)(p:Vc):Prop:=∀x y,secL p 0 (rings c)=some x->secL p 0 (rings s)=some y->¬dI3 (x.2,x.1) y
theorem fT3{c s:Sh}(v:bG c)(w:bG s){p:Vc}(k:Sm4 p):touchAt c s (λx y=>¬jH y (x.2,x.1)) p↔fH8 c s p:=by
 unfold touchAt fH8;rw[fD8 v k,fD8 w k];obtain⟨C,L⟩:=fH7 k (rings c) 0 (fO6 v);obtain⟨D,M⟩:=fH7 k (rings s) 0 (fO6 w);by_cases H:∃r∈rings c,onR r p;by_cases I:∃r∈rings s,onR r p;obtain⟨x,y,z,E,F,f,⟨u,q,t⟩,m,i,j⟩:=C H;obtain⟨x',A,B,n,o,a,⟨l,g,h⟩,e,b,d⟩:=D I;have J:jE c p=x:=by unfold jE;rw[E];rfl
 have K:jE s p=x':=by unfold jE;rw[n];rfl
 rw[J,K,F,o];have N:SecG (y.2,y.1):=fS8 (secG_dir m ⟨i,j⟩ f);have G:SecG A:=secG_dir e ⟨b,d⟩ a;have O:jH x' (x.2,x.1)↔jH B (z.2,z.1):=fD7 ⟨t,q⟩ ⟨f.s2,f.s1⟩ ⟨g,h⟩ ⟨a.s1,a.s2⟩ ⟨u.2,u.1⟩ l;have P:jH A (y.2,y.1)↔jH B (z.2,z.1):=fD7 ⟨j,i⟩ ⟨f.s2,f.s1⟩ ⟨b,d⟩ ⟨a.s1,a.s2⟩ ⟨m.2,m.1⟩ e;grind [fD6];simp_all;simp_all
theorem fV3{O:List Vc}{k:Nat}(h:k<O.length):O.getD k z0=O[k] :=DF
theorem gE8{a b:Vc}(c:¬kF a b)(d:¬kF b a):a=b:=by
 by_cases h:a=b;exact h;exact absurd (fK0 c h) d
def fL2:∀(l:List Vc) (m:Vc),¬kF m (sQ m l)/\∀x∈l,¬kF x (sQ m l)
 | [],m=>⟨(λh=>fJ8 h h),(λx b=>by cases b)⟩
 |y::l,m=>by
  obtain⟨a,c⟩:=fL2 l (open Classical in if kF y m then y else m);have e:sQ m (y::l)=sQ (open Classical in if kF y m then y else m) l:=rfl;rw[e];refine⟨?_,λx b=>?_⟩;by_cases q:kF y m;rw[Sj q]at a⊢;exact λh=>a (fD9 q h);rw[RZ q]at a⊢;exact a;rcases SI.1 b with rfl|b;by_cases q:kF x m;rw[Sj q]at a⊢;exact a;rw[RZ q]at a⊢;intro h;grind [fD9,fK0];exact c x b
def fL5{v:Vc}:∀ {l:List Vc} {j k:Nat},l[j]? =some v->(∀i,i<j->l[i]? ≠some v)->sN v l k=some (k+j)
 | [],j,k,h,_=>I9
 |x::l,j,k,h,b=>by
  unfold sN;cases j with
  |zero=>
   rw[List.getElem?_cons_zero]at h;rw[Sj (TF h).symm];rfl
  |succ j=>
   have a:=b 0 Aa;rw[List.getElem?_cons_zero]at a;rw[RZ (λe=>a (by rw[e])),fL5 (j:=j) (by rw[TB]at h;exact h) (λi hi=>by have:=b (i+1) Aa;rw[TB]at this;exact this)];congr 1;omega
def gB7(r:Rg)(k:Nat):Prop:=k<r.length/\(∀j,j<r.length->¬kF (r.getD j z0) (r.getD k z0))/\∀j,j<k->r.getD j z0≠r.getD k z0
def fJ7{r:Rg}{k:Nat}(h:gB7 r k):wO r=r.getD k z0/\wL r=r.drop k++r.take k:=by
 obtain⟨a,g,c⟩:=h;have hne:r≠ [] :=λe=>by rw[e]at a;simp at a
 have d:=eH8 hne;have b:∀x∈r,¬kF x (wO r):=Ll
 have e:wO r=r.getD k z0:=by
  obtain⟨i,hi,q⟩:=List.mem_iff_getElem.1 d;grind [gE8,aE1,fV3]
 refine⟨e,?_⟩;unfold wL
 have f:sN (wO r) r 0=some k:=by
  rw[e]
  have:=fL5 (v:=r.getD k z0) (l:=r) (j:=k) (k:=0) (getD_some a) (λi hi=>by
   rw[getD_some Aa];exact λq=>c i hi (TF q))
  rw[this];congr 1;omega
 rw[f];rfl
def fY4:∀ {r:Rg},r≠ []->∃k,gB7 r k:=by
 intro r hne;have n:=eH8 hne;have b:∀x∈r,¬kF x (wO r):=Ll;obtain⟨j,f,m,g⟩:=aT6 (k:=0) n
 have key:∀ {l:List Vc} {k j:Nat} {v:Vc},sN v l k=some j->k<=j/\l[j-k]? =some v/\∀i,i<j-k->l[i]? ≠some v:=by
  intro l;induction l with
  |nil=>intro k j v h;cases h
  |cons x l o=>
   intro k j v h;unfold sN at h;split at h;simp_all;rename_i e;obtain⟨q1,q2,c⟩:=o h;grind
 obtain⟨_,q2,c⟩:=key f;rw[U0]at q2 c;obtain⟨a,d⟩:=Si.1 q2;refine⟨j,a,λi hi=>?_,λi hi=>?_⟩;rw[fV3 a,d];exact b _ (aE1 hi);grind
def fU0{r:Rg}(h:r≠ []):(wL r).getD 0 z0∈r:=by
 obtain⟨k,a⟩:=fY4 h;rw[(fJ7 a).2,SN,List.getElem?_append_left (by rw[Tv];have:=a.1;omega),Tz,Ux,RY a.1];exact Ui _
def keyR(r:Rg):Vc:=r.getD 0 z0
def fA(h:Rg)(l:List Rg):Nat:=(l.takeWhile λy=>decB (kF (keyR y) (keyR h))).length
def insH(h:Rg)(l:List Rg):List Rg:=l.take (fA h l)++h::l.drop (fA h l)
def srtH(l:List Rg):List Rg:=l.foldl (λo h=>insH h o) []
def fP2(s:Sh):Sh:=⟨wL s.outer,srtH (s.holes.map wL)⟩
theorem fK1(D:List Rg)(x:Rg):srtH (D++[x])=insH x (srtH D):=by unfold srtH;rw[U5];rfl
def fM8{a:Type}(p:a->Bool):∀l:List a,l.take (l.takeWhile p).length=l.takeWhile p/\(∀y,(l.drop (l.takeWhile p).length)[0]? =some y->p y=false)
 | [] =>⟨rfl,λy h=>Ah⟩
 |x::l=>by
  obtain⟨b,c⟩:=fM8 p l;rw[Vm];grind
theorem fT7{x:Rg}:∀ {B R:List Rg},(∀y∈B,cR x y<0)->insR cR x (B++R)=B++insR cR x R
 | [],R,_=>rfl
 |y::B,R,h=>by
  show(if cR x y<0 then y::insR cR x (B++R)else x::y::(B++R))=_;simp_all [Sj,fT7]
theorem gD0{x:Rg}:∀ {R:List Rg},(∀y∈R,¬cR x y<0)->insR cR x R=x::R
 | [],_=>rfl
 |y::R,h=>by
  show(if cR x y<0 then y::insR cR x R else x::y::R)=_;rw[RZ (h y Af)]
def gH0{x:Rg}{A:List Rg}(k:A.Pairwise λa b=>kF (keyR a) (keyR b))(j:∀a∈A,keyR a≠keyR x):
 insH x A=(insR cR x A.reverse).reverse/\(insH x A).Pairwise (λa b=>kF (keyR a) (keyR b)):=by
 obtain⟨n,i⟩:=fM8 (λy=>decB (kF (keyR y) (keyR x))) A;have e:A=A.take (fA x A)++A.drop (fA x A):=(TG _ _).symm
 have d:∀y∈A.take (fA x A),kF (keyR y) (keyR x):=λy hy=>by
  grind [dH,fU7,fA]
 have g:=Ue.1 (e▸k)
 have c:∀y∈A.drop (fA x A),kF (keyR x) (keyR y):=by
  intro y hy;have l:y∈A:=Tc hy;cases f:A.drop (fA x A)with
  |nil=>rw[f]at hy;cases hy
  |cons z Z=>
   have m:=i z (by show(A.drop (fA x A))[0]? =_;rw[f];rfl);grind [Tc,fK0,dW,fD9,Ua]
 constructor
 ·unfold insH
  conv=>rhs;rw[e]
  rw[List.reverse_append,fT7,gD0]
  ·simp
  ·intro y hy
   have:=d y Ed;exact λq=>fJ8 this q
  ·intro y hy
   exact c y Ed
 ·unfold insH
  refine Ue.2 ⟨g.1,Ua.2 ⟨c,g.2.1⟩,λa o b r=>?_⟩;grind
theorem fW9{x z:Rg}{A:List Rg}:z∈insH x A↔z=x\/z∈A:=by
 unfold insH;have e:A=A.take (fA x A)++A.drop (fA x A):=(TG _ _).symm;constructor;intro q;rcases Sz.1 q with q|q;exact .inr (SS q);rcases SI.1 q with q|q;exact .inl q;exact .inr (Tc q);rintro(q|q);simp[q];rw[e]at q;rcases Sz.1 q with q|q;simp[q];simp[q]
def fW6:∀(R D:List Rg),(D++R).Pairwise (λa b=>keyR a≠keyR b)->(srtH D=(isR cR D).reverse/\(srtH D).Pairwise (λa b=>kF (keyR a) (keyR b))/\∀z,z∈srtH D↔z∈D)->srtH (D++R)=(isR cR (D++R)).reverse
 | [],D,_,h=>by rw[SB];exact h.1
 |x::R,D,c,⟨f,g,d⟩=>by
  have j:∀a∈srtH D,keyR a≠keyR x:=λa i=>by
   have:=(Ue.1 c).2.2 a ((d a).1 i) x Af;exact this
  obtain⟨k,l⟩:=gH0 g j;have e:D++x::R=(D++[x])++R:=Af;rw[e]at c⊢;refine fW6 R (D++[x]) c ⟨?_,by rw[fK1];exact l,λz=>?_⟩;rw[fK1,eB2,k,f,List.reverse_reverse];rw[fK1,fW9,d];simp[or_comm]
def fV8{s:Sh}(d:bG s):fP2 s=qO s:=by
 have o:dM s.outer:=d.2.1 _ AB;have m:∀r∈s.holes,dM r:=λr hr=>d.2.1 r Dz;rw[aN9 d];unfold fP2 wW qA;have l:s.holes.map gQ=s.holes.map wL:=U8 (λr hr=>bJ7 (m r hr));rw[bJ7 o,l];congr 1
 have g:(s.holes.map wL).Pairwise (λa b=>keyR a≠keyR b):=by
  rw[List.pairwise_map,List.pairwise_iff_getElem];intro i j hi n f q;have c:=(cS9 d f (RY hi) (RY n)).1;have u:s.holes[i]≠ [] :=λe=>by have:=c.ob.1;rw[e]at this;simp at this
  have v:s.holes[j]≠ [] :=λe=>by have:=c.oa.1;rw[e]at this;simp at this
  have k:=fU0 u;have t:=fU0 v;unfold keyR at q;rw[q]at k;exact c.off (vert_onR c.oa t) (vert_onR c.ob k)
 have:=fW6 (s.holes.map wL) [] (by simpa using g) ⟨rfl,List.Pairwise.nil,λz=>Tn⟩;simpa using this
def gE1{a b:Sh}:rings a=rings b↔a=b:=by
 constructor;intro h;unfold rings at h;cases a;cases b<;>simp_all
 rintro rfl;rfl
end Go.Proofs.Led
