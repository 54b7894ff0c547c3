/- Lemmas. -/
import Derived.Test.YtecbpikbjfihmaaGreatDoorB6
set_option linter.all false
set_option autoImplicit true
set_option relaxedAutoImplicit true
set_option maxRecDepth 100000
set_option maxHeartbeats 8000000
noncomputable section
namespace Go.Proofs.Led
open Go Go.Proofs Go.Ab
def sc(k:Int)(u:Vc):Vc:=(k*u.1,k*u.2)
def Un(u:Vc):Prop:= -1<=u.1/\u.1<=1/\-1<=u.2/\u.2<=1
def Ln(k:Int):Prop:=1<=k/\k<=1900
def dH0(a:Ln k)(b: -1<=n/\n<=1):Sm (k*n):=by
 unfold Ln at a;have h:n= -1\/n=0\/n=1:=Aa;rcases h with rfl|rfl|rfl<;>(unfold Sm;omega)
def aV6(h: -1<=n/\n<=1):Sm n:=by unfold Sm;omega
def mul4(p q r s:Int):p*q*(r*s)=p*r*(q*s):=by ac_rfl
def cI9(a:Ln k)(b:Ln l)(s:Un u)(hv:Un v):bZ (sc k u) (sc l v)=(k*l)*bZ u v/\vdot (sc k u) (sc l v)=(k*l)*vdot u v/\0<k*l:=by
 let⟨c,d,e,f⟩:=s;let⟨g,i,j,m⟩:=hv;have n:=dH0 a ⟨c,d⟩;have o:=dH0 a ⟨e,f⟩;have q:=dH0 b ⟨g,i⟩;have r:=dH0 b ⟨j,m⟩;rw[iK n o q r,bY4 n o q r,iK (aV6 ⟨c,d⟩) (aV6 ⟨e,f⟩) (aV6 ⟨g,i⟩) (aV6 ⟨j,m⟩),bY4 (aV6 ⟨c,d⟩) (aV6 ⟨e,f⟩) (aV6 ⟨g,i⟩) (aV6 ⟨j,m⟩)];unfold Ln at a b;refine⟨?_,?_,Int.mul_pos Aa Aa⟩;show k*u.1*(l*v.2)-k*u.2*(l*v.1)=_;rw[Int.mul_sub,mul4 k u.1,mul4 k u.2];show k*u.1*(l*v.1)+k*u.2*(l*v.2)=_;rw[Int.mul_add,mul4 k u.1,mul4 k u.2]
def bA0(d:Ln k)(e:Ln l)(f:Un u)(hv:Un v):jS (sc k u) (sc l v)=jS u v:=by
 let⟨b,c,a⟩:=cI9 d e f hv;unfold jS;rw[b,c];let⟨j,g,h⟩:=pG (k:=k*l) (n:=bZ u v) a;let⟨m,o,i⟩:=pG (k:=k*l) (n:=vdot u v) a;simp[g,h,i]
def dU9(c:Ln k)(d:Ln l)(e:Un u)(hv:Un v):0<bZ (sc k u) (sc l v)↔0<bZ u v:=by
 let⟨a,f,b⟩:=cI9 c d e hv;rw[a];exact(pG b).2.1
def dY1(a:Ln k)(e:Ln l)(b:Ln m)(f:Ln n)(c:Un u)(hv:Un v)(d:Un x)(g:Un y):jH (sc k u,sc l v) (sc m x,sc n y)↔jH (u,v) (x,y):=by
 unfold jH oG;simp only;rw[bA0 a b c d,bA0 a e c hv,bA0 b a d c,bA0 b f d g,dU9 b e d hv,dU9 a f c g]
theorem av0 a b c d p:dJ 0 (rr a b c d) p 0=open Classical in if(a,b)=p then some (vsub (c,b) p,vsub (a,d) p)else if(c,b)≠p/\eX ((a,b),(c,b)) p then some (vsub (c,b) p,vsub (a,b) p)else none:=by
 unfold dJ arN arL;rw[eU3,eV2];rfl
theorem av1 a b c d p:dJ 0 (rr a b c d) p 1=open Classical in if(c,b)=p then some (vsub (c,d) p,vsub (a,b) p)else if(c,d)≠p/\eX ((c,b),(c,d)) p then some (vsub (c,d) p,vsub (c,b) p)else none:=by
 unfold dJ arN arL;rw[eV9,eV8];rfl
theorem av2 a b c d p:dJ 0 (rr a b c d) p 2=open Classical in if(c,d)=p then some (vsub (a,d) p,vsub (c,b) p)else if(a,d)≠p/\eX ((c,d),(a,d)) p then some (vsub (a,d) p,vsub (c,d) p)else none:=by
 unfold dJ arN arL;rw[eU5,eU8];rfl
theorem av3 a b c d p:dJ 0 (rr a b c d) p 3=open Classical in if(a,d)=p then some (vsub (a,b) p,vsub (c,d) p)else if(a,b)≠p/\eX ((a,d),(a,b)) p then some (vsub (a,b) p,vsub (a,d) p)else none:=by
 unfold dJ arN arL;rw[eV3,eV0];rfl
theorem dS1 a b c d p:jE (rS a b c d) p=(((dJ 0 (rr a b c d) p 0).or ((dJ 0 (rr a b c d) p 1).or ((dJ 0 (rr a b c d) p 2).or (dJ 0 (rr a b c d) p 3)))).getD ((0,0),(0,0))):=by
 have e:qY 0 (rr a b c d) p=(dJ 0 (rr a b c d) p 0).or ((dJ 0 (rr a b c d) p 1).or ((dJ 0 (rr a b c d) p 2).or (dJ 0 (rr a b c d) p 3))):=by
  unfold qY;have:List.range (rr a b c d).length=[0,1,2,3] :=Ac;rw[this];simp[List.findSome?];cases dJ 0 (rr a b c d) p 0<;>cases dJ 0 (rr a b c d) p 1<;>cases dJ 0 (rr a b c d) p 2<;>cases dJ 0 (rr a b c d) p 3<;>rfl
 show(Option.or (qY 0 (rr a b c d) p) none).getD _=_;rw[e,Option.or_none]
def Side(a b c d:Int)(p u v:Vc):Prop:=
 (p.1=a/\p.2=b/\u=(1,0)/\v=(0,1))\/(p.2=b/\a<p.1/\p.1<c/\u=(1,0)/\v=(-1,0))\/(p.1=c/\p.2=b/\u=(0,1)/\v=(-1,0))\/(p.1=c/\b<p.2/\p.2<d/\u=(0,1)/\v=(0,-1))\/
 (p.1=c/\p.2=d/\u=(-1,0)/\v=(0,-1))\/(p.2=d/\a<p.1/\p.1<c/\u=(-1,0)/\v=(1,0))\/(p.1=a/\p.2=d/\u=(0,-1)/\v=(1,0))\/(p.1=a/\b<p.2/\p.2<d/\u=(0,-1)/\v=(0,1))
def bY0(a:On19 v)(b:On19 p):vsub v p=(v.1-p.1,v.2-p.2):=by
 unfold On19 at*;exact kN ⟨Aa,Aa⟩ ⟨Aa,Aa⟩
def bR3(h:RB a b c d)(m:On19 p)(q:wP a b c d p)(F:¬wR a b c d p):
 ∃k l u v,Ln k/\Ln l/\jE (rS a b c d) p=(sc k u,sc l v)/\Side a b c d p u v:=by
 let⟨A,B,C,D⟩:=bL1 h;have o:=dF0 A B m;have r:=dH4 B C m;have E:=dF0 C D m;have G:=dH4 D A m;have s:=bY0 A m;have t:=bY0 B m;have w:=bY0 C m;have z:=bY0 D m;let⟨K,L,M,N,O,P⟩:=h;let⟨f,g⟩:=p;unfold wP at q;unfold wR at F;simp only at q F o r E G s t w z;have J:(f=a/\g=b)\/(g=b/\a<f/\f<c)\/(f=c/\g=b)\/(f=c/\b<g/\g<d)\/(f=c/\g=d)\/(g=d/\a<f/\f<c)\/(f=a/\g=d)\/(f=a/\b<g/\g<d):=Aa;rw[dS1]
 have j:∀ {x y:Int},(x≠f\/y≠g)->¬((x,y):Vc)=(f,g):=λi e=>by
  have H:=RI Prod.fst e;have I:=RI Prod.snd e;simp only at H I;omega
 rcases J with⟨g1,g2⟩|⟨g1,g2,n⟩|⟨g1,g2⟩|⟨g1,g2,n⟩|⟨g1,g2⟩|⟨g1,g2,n⟩|⟨g1,g2⟩|⟨g1,g2,n⟩
 ·refine⟨c-a,d-b,(1,0),(0,1),⟨Aa,Aa⟩,⟨Aa,Aa⟩,?_, .inl ⟨g1,g2,rfl,rfl⟩⟩
  rw[av0,QU Ia,t,z];show(((c-f,b-g),(a-f,d-g)):Sg)=_;unfold sc;simp[g1,g2,Int.mul_zero,Int.mul_one,Int.sub_self]
 ·refine⟨c-f,f-a,(1,0),(-1,0),⟨Aa,Aa⟩,⟨Aa,Aa⟩,?_, .inr (.inl ⟨g1,g2,n,rfl,rfl⟩)⟩
  rw[av0,Q9 (j Aa),QU ⟨j Aa,o.2 Aa⟩,t,s];show(((c-f,b-g),(a-f,b-g)):Sg)=_;exact Oo
 ·refine⟨d-b,c-a,(0,1),(-1,0),⟨Aa,Aa⟩,⟨Aa,Aa⟩,?_, .inr (.inr (.inl ⟨g1,g2,rfl,rfl⟩))⟩
  rw[av0,Q9 (j Aa),Q9 (λi=>i.1 Ia),av1,QU Ia,w,s];show(((c-f,d-g),(a-f,b-g)):Sg)=_;exact PI
 ·refine⟨d-g,g-b,(0,1),(0,-1),⟨Aa,Aa⟩,⟨Aa,Aa⟩,?_, .inr (.inr (.inr (.inl ⟨g1,g2,n,rfl,rfl⟩)))⟩
  rw[av0,Q9 (j Aa),Q9 (λi=>by have:=o.1 i.2;omega),av1,Q9 (j Aa),QU ⟨j Aa,r.2 Aa⟩,w,t];show(((c-f,d-g),(c-f,b-g)):Sg)=_;exact Oo
 ·refine⟨c-a,d-b,(-1,0),(0,-1),⟨Aa,Aa⟩,⟨Aa,Aa⟩,?_, .inr (.inr (.inr (.inr (.inl ⟨g1,g2,rfl,rfl⟩))))⟩
  rw[av0,Q9 (j Aa),Q9 (λi=>by have:=o.1 i.2;omega),av1,Q9 (j Aa),Q9 (λi=>i.1 Ia),av2,QU Ia,z,t];show(((a-f,d-g),(c-f,b-g)):Sg)=_;unfold sc;simp[g1,g2,Int.mul_zero,Int.mul_one,Int.sub_self,Int.mul_neg];congr 2<;>omega
 ·refine⟨f-a,c-f,(-1,0),(1,0),⟨Aa,Aa⟩,⟨Aa,Aa⟩,?_, .inr (.inr (.inr (.inr (.inr (.inl ⟨g1,g2,n,rfl,rfl⟩)))))⟩
  rw[av0,Q9 (j Aa),Q9 (λi=>by have:=o.1 i.2;omega),av1,Q9 (j Aa),Q9 (λi=>by have:=r.1 i.2;omega),av2,Q9 (j Aa),QU ⟨j Aa,E.2 Aa⟩,z,w];show(((a-f,d-g),(c-f,d-g)):Sg)=_;exact Oo
 ·refine⟨d-b,c-a,(0,-1),(1,0),⟨Aa,Aa⟩,⟨Aa,Aa⟩,?_, .inr (.inr (.inr (.inr (.inr (.inr (.inl ⟨g1,g2,rfl,rfl⟩))))))⟩
  rw[av0,Q9 (j Aa),Q9 (λi=>by have:=o.1 i.2;omega),av1,Q9 (j Aa),Q9 (λi=>by have:=r.1 i.2;omega),av2,Q9 (j Aa),Q9 (λi=>i.1 Ia),av3,QU Ia,s,w];show(((a-f,b-g),(c-f,d-g)):Sg)=_;exact PI
 ·refine⟨g-b,d-g,(0,-1),(0,1),⟨Aa,Aa⟩,⟨Aa,Aa⟩,?_, .inr (.inr (.inr (.inr (.inr (.inr (.inr ⟨g1,g2,n,rfl,rfl⟩))))))⟩
  rw[av0,Q9 (j Aa),Q9 (λi=>by have:=o.1 i.2;omega),av1,Q9 (j Aa),Q9 (λi=>by have:=r.1 i.2;omega),av2,Q9 (j Aa),Q9 (λi=>by have:=E.1 i.2;omega),av3,Q9 (j Aa),QU ⟨j Aa,G.2 Aa⟩,s,z];show(((a-f,b-g),(a-f,d-g)):Sg)=_;exact Oo
def rZ(g:On19 (c,y))(i:On19 (e,y))(j:On19 (x,a))(l:On19 (x,d))(N:¬(min c e<x/\x<max c e/\min a d<y/\y<max a d)):
 dG ((c,y),(e,y)) ((x,a),(x,d))≠2/\dG ((x,a),(x,d)) ((c,y),(e,y))≠2:=by
 have C:=yC (s:=((c,y),(e,y))) (t:=((x,a),(x,d))) g i j l;have A:=bW0 (s:=((c,y),(e,y))) (t:=((x,a),(x,d))) g i j l;have B:=bT9 (s:=((c,y),(e,y))) (t:=((x,a),(x,d))) g i j l;have fD:=yC (s:=((x,a),(x,d))) (t:=((c,y),(e,y))) j l g i;have fA:=bW0 (s:=((x,a),(x,d))) (t:=((c,y),(e,y))) j l g i;have fB:=bT9 (s:=((x,a),(x,d))) (t:=((c,y),(e,y))) j l g i;unfold On19 at*;simp only at*;rw[show x-x=0 from Aa,show y-y=0 from Aa]at*;simp[Int.mul_zero,Int.zero_mul,Int.sub_zero,Int.zero_sub]at*;have b:∀m n p q:Int,0<=m->m<=1900->0<=n->n<=1900->0<=p->p<=1900->0<=q->q<=1900->-100000000<=(m-n)*(p-q)/\(m-n)*(p-q)<=100000000:=λm n p q _ _ _ _ _ _ _ _=>vG ⟨Aa,Aa⟩ ⟨Aa,Aa⟩;have O:=b e c d a Aa Aa Aa Aa Aa Aa Aa Aa;have P:=b x c d a Aa Aa Aa Aa Aa Aa Aa Aa;have Q:=b a y e c Aa Aa Aa Aa Aa Aa Aa Aa;have R:=b d a e c Aa Aa Aa Aa Aa Aa Aa Aa;have S:=b y a e c Aa Aa Aa Aa Aa Aa Aa Aa;have T:=b c x d a Aa Aa Aa Aa Aa Aa Aa Aa
 have key:∀(k m n:Int),(0<k*m/\k*m<k*n->(0<k/\0<m/\m<n)\/(k<0/\m<0/\n<m)):=by
  rintro k m n ⟨D,M⟩;rcases Int.lt_trichotomy k 0 with f|f|f;right;let⟨J,E,u⟩:=pG (k:= -k) (n:=m) Aa;let⟨K,v,r⟩:=pG (k:= -k) (n:=n-m) Aa;rw[Int.neg_mul]at u r;rw[Int.mul_sub]at r;exact⟨f,u.1 Aa,by have:=r.1 Aa;omega⟩;subst f;simp at D;left;let⟨J,E,u⟩:=pG (k:=k) (n:=m) f;let⟨K,v,r⟩:=pG (k:=k) (n:=n-m) f;rw[Int.mul_sub]at v;exact⟨f,E.1 D,by have:=v.1 Aa;omega⟩
 have F:(e-c)*(d-a)=(d-a)*(e-c):=Int.mul_comm _ _;have G:(x-c)*(d-a)=(d-a)*(x-c):=Int.mul_comm _ _;have z: -((a-y)*(e-c))=(e-c)*(y-a):=FD;have H:(y-a)*(e-c)=(e-c)*(y-a):=Int.mul_comm _ _;have I: -((c-x)*(d-a))=(d-a)*(x-c):=FD;have L:(e-c)*(d-a)=(e-c)*(d-a):=rfl;constructor
 ·intro h
  by_cases o:jC ((c,y),(e,y)) ((x,a),(x,d))=0
  ·exact aP6 o h
  ·rcases cN5 o h with⟨w,q2,q3,q4,q5⟩|⟨w,q2,q3,q4,q5⟩
   ·rw[A]at q2 q3
    rw[B]at q4 q5;rw[C]at q3 q5;rw[G]at q2 q3;rw[F]at q3;rw[z]at q4 q5;have k1:=key _ _ _ ⟨q2,q3⟩;have k2:=key _ _ _ ⟨q4,q5⟩;omega
   ·rw[A]at q2 q3
    rw[B]at q4 q5;rw[C]at q3 q5;rw[w_in Aa]at q2;rw[w_in Aa,w_in Aa]at q3;rw[w_in Aa]at q4;rw[w_in Aa,w_in Aa]at q5;have e2:0- (x-c)*(d-a)=(a-d)*(x-c):=DV;have e3:0- (e-c)*(d-a)=(a-d)*(e-c):=DV
    have e4:0- -((a-y)*(e-c))=(c-e)*(y-a):=by
     rw[z,Int.zero_sub,<-Int.neg_mul];congr 1;omega
    have e5:0- (e-c)*(d-a)=(c-e)*(d-a):=by rw[Int.zero_sub,<-Int.neg_mul];congr 1;omega
    exact Ot
 ·intro h
  by_cases o:jC ((x,a),(x,d)) ((c,y),(e,y))=0
  ·exact aP6 o h
  ·rcases cN5 o h with⟨w,q2,q3,q4,q5⟩|⟨w,q2,q3,q4,q5⟩
   ·rw[fA]at q2 q3
    rw[fB]at q4 q5;rw[fD]at q3 q5;have e2: -((y-a)*(e-c))=(c-e)*(y-a):=FH;have e3: -((d-a)*(e-c))=(c-e)*(d-a):=FH;have e4:(c-x)*(d-a)=(a-d)*(x-c):=by rw[Int.mul_comm,<-Int.neg_mul_neg];congr 1<;>omega
    have e5: -((d-a)*(e-c))=(a-d)*(e-c):=Fa;exact Ot
   ·rw[fA]at q2 q3
    rw[fB]at q4 q5;rw[fD]at q3 q5;rw[w_in Aa]at q2;rw[w_in Aa,w_in Aa]at q3;rw[w_in Aa]at q4;rw[w_in Aa,w_in Aa]at q5;have e2:0- -((y-a)*(e-c))=(e-c)*(y-a):=by rw[H];omega
    have e3:0- -((d-a)*(e-c))=(e-c)*(d-a):=by rw[Int.mul_comm (d-a)];omega
    have e4:0- (c-x)*(d-a)=(d-a)*(x-c):=by rw[Int.zero_sub,I]
    have e5:0- -((d-a)*(e-c))=(d-a)*(e-c):=Aa;exact Ot
def aL8(e:On19 (a,y))(f:On19 (b,y))(g:On19 (c,w))(i:On19 (d,w)):dG ((a,y),(b,y)) ((c,w),(d,w))≠2:=by
 refine aP6 ?_;rw[yC e f g i];simp only;rw[show w-w=0 from Aa,show y-y=0 from Aa];simp
def aO7(e:On19 (x,a))(f:On19 (x,b))(g:On19 (w,c))(i:On19 (w,d)):dG ((x,a),(x,b)) ((w,c),(w,d))≠2:=by
 refine aP6 ?_;rw[yC e f g i];simp only;rw[show w-w=0 from Aa,show x-x=0 from Aa];simp
structure Box2(a b c d x y z w:Int):Prop where
 o:RB a b c d
 i:RB x y z w
 h1:a<=x
 h2:z<=c
 h3:b<=y
 h4:w<=d
theorem eI8 a b c d:aC0 (rS a b c d)=[((a,b),(c,b)),((c,b),(c,d)),((c,d),(a,d)),((a,d),(a,b))] :=by
 show List.flatMap bF [rr a b c d] =_;simp[bD6]
theorem eD2 a b c d:rV (rS a b c d)=[(a,b),(c,b),(c,d),(a,d)] :=by
 show List.flatten [rr a b c d] =_;simp[rr]
def dY7(h:Box2 a b c d x y z w):¬rJ (rS a b c d) (rS x y z w) [2] :=by
 rintro⟨s,n,t,q,e⟩;rw[eI8]at n q;rw[Ri]at e;let⟨o1,o2,l,m⟩:=bL1 h.o;let⟨f,g,j,k⟩:=bL1 h.i;let⟨⟨H,I,J,K,L,M⟩,⟨B,C,D,E,F,G⟩,r,u,v,A⟩:=h;simp[Rl,TP,UL]at n q;rcases n with rfl|rfl|rfl|rfl<;>rcases q with rfl|rfl|rfl|rfl
 exact aL8 o1 o2 f g e;exact(rZ o1 o2 g j Aa).1 e;exact aL8 o1 o2 j k e;exact(rZ o1 o2 k f Aa).1 e;exact(rZ f g o2 l Aa).2 e;exact aO7 o2 l g j e;exact(rZ j k o2 l Aa).2 e;exact aO7 o2 l k f e;exact aL8 l m f g e;exact(rZ l m g j Aa).1 e;exact aL8 l m j k e;exact(rZ l m k f Aa).1 e;exact(rZ f g m o1 Aa).2 e;exact aO7 m o1 g j e;exact(rZ j k m o1 Aa).2 e;exact aO7 m o1 k f e
def aZ2(h:RB a b c d)(e:p∈rV (rS a b c d)):On19 p/\(p.1=a\/p.1=c)/\(p.2=b\/p.2=d):=by
 rw[eD2]at e;let⟨o1,o2,f,g⟩:=bL1 h;simp[Rl,TP,UL]at e;rcases e with rfl|rfl|rfl|rfl;exact⟨o1, .inl rfl, .inl rfl⟩;exact⟨o2, .inr rfl, .inl rfl⟩;exact⟨f, .inr rfl, .inr rfl⟩;exact⟨g, .inl rfl, .inr rfl⟩
def eA1(h:Side a b c d p u v):Un u/\Un v:=by
 unfold Side at h;rcases h with h|h|h|h|h|h|h|h
 all_goals
  obtain⟨e,hv⟩:u=_/\v=_:=by first|exact⟨h.2.2.1,h.2.2.2⟩|exact⟨h.2.2.2.1,h.2.2.2.2⟩
  subst e hv;exact⟨by unfold Un;decide,by unfold Un;decide⟩
def dA2(h:Box2 a b c d x y z w)(l:Side a b c d p u v)(m:Side x y z w p n v'):¬jH (n,v') (v,u):=by
 let⟨⟨F,G,H,I,J,K⟩,⟨t,A,B,C,D,E⟩,o,q,r,s⟩:=h;unfold Side at l m
 rcases l with⟨e,f,rfl,rfl⟩|⟨e,f,j,rfl,rfl⟩|⟨e,f,rfl,rfl⟩|⟨e,f,j,rfl,rfl⟩|⟨e,f,rfl,rfl⟩|⟨e,f,j,rfl,rfl⟩|⟨e,f,rfl,rfl⟩|⟨e,f,j,rfl,rfl⟩<;>
  rcases m with⟨g,i,rfl,rfl⟩|⟨g,i,k,rfl,rfl⟩|⟨g,i,rfl,rfl⟩|⟨g,i,k,rfl,rfl⟩|⟨g,i,rfl,rfl⟩|⟨g,i,k,rfl,rfl⟩|⟨g,i,rfl,rfl⟩|⟨g,i,k,rfl,rfl⟩
 all_goals first
  |omega
  |(unfold jH oG;decide+kernel)
def cF3(h:Box2 a b c d x y z w):lI (rS a b c d) (rS x y z w):=by
 refine⟨bC0 h.o,bC0 h.i,dY7 h,?_,?_,?_⟩;rintro⟨p,j,n⟩;let⟨t,U,V⟩:=aZ2 h.i j;have q:=h;let⟨⟨x0,x1,x2,y0,y1,y2⟩,⟨X,Y,Z,v0,v1,v2⟩,I,J,K,L⟩:=h;rcases aP7 q.o t with⟨f,e⟩|⟨f,e,m⟩|⟨f,e⟩;rw[n]at e;cases e;rw[n]at m;cases m;exact f (by unfold wP;omega);rintro⟨p,j,n⟩;let⟨t,U,V⟩:=aZ2 h.o j;have q:=h;let⟨⟨x0,x1,x2,y0,y1,y2⟩,⟨X,Y,Z,v0,v1,v2⟩,I,J,K,L⟩:=h;rcases aP7 q.i t with⟨f,e⟩|⟨f,e,m⟩|⟨f,e⟩;unfold wR at f;omega;rw[n]at m;cases m;rw[n]at e;cases e;intro p j A B
 have g:On19 p:=by
  rcases Rh.1 j with j|j;exact(aZ2 h.o j).1;exact(aZ2 h.i j).1
 have E:wP a b c d p/\¬wR a b c d p:=by
  rcases aP7 h.o g with⟨f,e⟩|⟨f,e,m⟩|⟨f,e⟩;rw[A]at e;cases e;exact⟨e,f⟩;rw[A]at e;cases e
 have F:wP x y z w p/\¬wR x y z w p:=by
  rcases aP7 h.i g with⟨f,e⟩|⟨f,e,m⟩|⟨f,e⟩;rw[B]at e;cases e;exact⟨e,f⟩;rw[B]at e;cases e
 let⟨k,l,u,v,M,N,G,C⟩:=bR3 h.o g E.1 E.2;let⟨O,P,W,v',r,s,H,D⟩:=bR3 h.i g F.1 F.2;show¬jH (jE (rS x y z w) p) ((jE (rS a b c d) p).2,(jE (rS a b c d) p).1);rw[G,H];show¬jH (sc O W,sc P v') (sc l v,sc k u);let⟨Q,R⟩:=eA1 C;let⟨S,T⟩:=eA1 D;rw[dY1 r s N M S T R Q];exact dA2 h C D
def eW8{id}(h:remE s b id=0):dB s/\nC id/\xH b/\dQ b.1/\dQ b.2:=by
 unfold remE at h;split at h;cases h;rename_i a;split at h;cases h;rename_i c;exact⟨SN.1 a,SN.1 c⟩
def fA4(a:xH b)(c:dQ b.1)(d:dQ b.2):RB (b.1.1-b.1.1) (b.1.2-b.1.2) (b.2.1-b.1.1) (b.2.2-b.1.2):=by
 unfold xH dQ at*;exact⟨Aa,Aa,Aa,Aa,Aa,Aa⟩
def cT4{id}(h:remE s b id=0):dB (remS s b id):=by
 let⟨v,g,r,o1,o2⟩:=eW8 h;let⟨⟨_,_,t,u⟩,l,m,_,k,_,_,w⟩:=v;have hrb:=fA4 r o1 o2;have hrc:=cL4 hrb;unfold remS;rw[QU h];refine⟨⟨g.1,g.2,t,u⟩,l,m,?_,Rz (yK b s.defects) k,?_,?_,λd e=>?_⟩;show jV (jT b b.1);rw[hrc];exact bU1 hrb;show dQ (boxS (jT b b.1)).1.1;exact PZ;show dQ (boxS (jT b b.1)).1.2;exact PZ;show qQ (jT b b.1) d;let⟨q,x,e⟩:=UR.1 e;unfold aK2 at e;split at e;rename_i o;rw[Ri]at e;generalize j:nV (boxS q).1 b=a at*
 have n:b.1.1<=a.1.1/\b.1.2<=a.1.2/\a.2.1<=b.2.1/\a.2.2<=b.2.2:=by
  rw[<-j];unfold nV;simp only;omega
 unfold xH at o;unfold dQ at o1 o2;have c:RB (a.1.1-b.1.1) (a.1.2-b.1.2) (a.2.1-b.1.1) (a.2.2-b.1.2):=⟨Aa,Aa,Aa,Aa,Aa,Aa⟩;have i:=cL4 c;have f:=cF3 ⟨hrb,c,Aa,Aa,Aa,Aa⟩;rw[e,hrc,i];exact⟨bU1 c,QU ⟨f.1,f.2.1⟩,f⟩;cases e
def bE3:∀ {l} {e b},sU a e l->b<=e->sU a b l
 | [],_,_,_,_=>trivial
 |d::l,e,b,h,c=>⟨by have:=h.1;omega,h.2.1,h.2.2.1,h.2.2.2⟩
def cK8(g:0<=r.lo)(i:r.lo<r.hi)(j:r.hi<=a)(k:a<=2000):∀ {l} {e},0<=e->sU a e l->sU (r.hi-r.lo) (max e r.lo-r.lo) (kH r l)
 | [],_,_,_=>trivial
 |d::l,e,s,h=>by
  let⟨m,n,o,c⟩:=h;have b:=cK8 g i j k (l:=l) (e:=d.2) Aa c;have f:kH r (d::l)=aH0 r d++kH r l:=by unfold kH;rw[Tm]
  rw[f];unfold aH0;split;rename_i q;rw[w_in Aa,w_in Aa];exact⟨Aj,Aj,Aj,bE3 b Aj⟩;exact bE3 b Aa
def stOk(x:aN):Prop:=(x.isBar=true->fM x.bar/\x.sheet=dN)/\(x.isBar=false->dB x.sheet/\x.bar=bar0)
def dB6(g:stOk m)(b:nC r.id)(h:iG m r=0):stOk (dZ m r)/\(dZ m r).isBar=m.isBar/\(dZ m r).program=aI/\(dZ m r).sheet.grade=m.sheet.grade/\(dZ m r).sheet.heat=m.sheet.heat/\(dZ m r).bar.grade=m.bar.grade/\(dZ m r).bar.heat=m.bar.heat:=by
 unfold dZ;cases d:m.isBar with
 |false=>
  rw[QU rfl];let⟨v,a⟩:=g.2 d;unfold iG at h;rw[QU d]at h;split at h;cases h;rename_i k;rw[Q9 k];have hv:=cT4 h;have e:remS m.sheet r.box r.id=⟨r.id,m.sheet.grade,m.sheet.heat,m.sheet.grain,jT r.box r.box.1,kJ r.box m.sheet.defects⟩:=by unfold remS;rw[QU h]
  refine⟨⟨λq=>EP,λ_=>⟨hv,rfl⟩⟩,rfl,rfl,?_,?_,?_,?_⟩;show(remS m.sheet r.box r.id).grade=_;rw[e];show(remS m.sheet r.box r.id).heat=_;rw[e];show bar0.grade=_;rw[a];show bar0.heat=_;rw[a]
 |true=>
  rw[Q9 Ai,QU h];let⟨⟨⟨_,_,n,o⟩,t,l,j,i⟩,c⟩:=g.1 d;unfold iG at h;rw[Q9 (by rw[d];decide)]at h;split at h;cases h;split at h;cases h;rename_i s;have f:W (r.hi-r.lo)=r.hi-r.lo:=w_in Aa;refine⟨⟨λ_=>⟨⟨⟨b.1,b.2,n,o⟩,?_,?_,Rz (aG5 r _) j,?_⟩,rfl⟩,λq=>EP⟩,rfl,rfl,?_,?_,rfl,rfl⟩;show 1<=W (r.hi-r.lo);rw[f];omega;show W (r.hi-r.lo)<=2000;rw[f];omega;show sU (W (r.hi-r.lo)) 0 (kH r m.bar.defects);rw[f];have:=cK8 (r:=r) Aa Aa Aa l (TB 0) i;rw[show max 0 r.lo-r.lo=0 from Aa]at this;exact this;show dN.grade=_;rw[c];show dN.heat=_;rw[c]
def Vs(s:aJ):Prop:=∀x∈s.stocks,stOk x
def vs0:Vs inv0:=λx h=>Ah
def dQ6(h:stOk m):stOk (prog m p):=h
theorem aE5:∀ {xs l:List a},y∈xs.foldl (putK key) l↔y∈l\/y∈xs
 | [],l=>Ad
 |x::xs,l=>by
  rw[RV,aE5,show(y∈putK key l x↔y=x\/y∈l)from fH,Rl];constructor;rintro((h|h)|h);exact .inr (.inl h);exact .inl h;exact .inr (.inr h);rintro(h|h|h);exact .inl (.inr h);exact .inl (.inl h);exact .inr h
def eP3(hv:Vs s)(n:Step s e s'):Vs s':=by
 cases n with
 |recv x u w=>
  intro y a;rcases fH.1 a with rfl|a;rcases u with⟨_,rfl,h⟩|⟨_,rfl,h⟩;exact⟨λq=>EP,λ_=>⟨h,rfl⟩⟩;exact⟨λ_=>⟨h,rfl⟩,λq=>EP⟩;exact hv y a
 |setK k m p d c b=>
  intro y a;rcases mem_set a with rfl|a;exact dQ6 (hv m (fC c));exact hv y a
 |disc k m d c b=>exact λy a=>hv y ((kM _ _).subset a)
 |setP k m st o d c t b=>exact hv
 |cut k m d i j c b z l v=>
  intro y a;rw[aF7]at a;rcases aE5.1 a with a|a;exact hv y ((kM _ _).subset a);obtain⟨r,f,rfl,g⟩:=yU l a;exact(dB6 (hv m (fC c)) (i.2.1 r f).1 g).1
def Later(q p:Piece):Prop:=p.id=q.id/\(p=q\/(q.status=1/\p={q with status:=p.status,order:=p.order}))
def bN9{b:Type}{l:List b}{m x q}(c:l[k]? =some m)(d:q∈l)(a:q≠m):q∈l.set k x:=by
 let⟨i,hi⟩:=List.mem_iff_getElem?.1 d;refine List.mem_iff_getElem?.2 ⟨i,?_⟩;rw[List.getElem?_set];split;rename_i h;subst h;rw[c]at hi;exact absurd (UG hi).symm a;exact hi
def cB8{a:Type}{l:List a}{m x}(c:l[k]? =some m):x∈l.set k x:=by
 let⟨b,_⟩:=QW.1 c;exact List.mem_iff_getElem?.2 ⟨k,by rw[List.getElem?_set];simp[b]⟩
def Sm4(v:Vc):Prop:= -4000<=v.1/\v.1<=4000/\-4000<=v.2/\v.2<=4000
def within_iff(a:0<=m/\m<=1000000):within v m↔-m<=v.1/\v.1<=m/\-m<=v.2/\v.2<=m:=by
 grind [within,w_in]
theorem jP:bI s↔Sm4 s.1/\Sm4 s.2:=by
 unfold bI;rw[within_iff Aa,within_iff Aa];exact RU
def X(u v:Vc):Int:=u.1*v.2-u.2*v.1
def dif(u v:Vc):Vc:=(u.1-v.1,u.2-v.2)
theorem xU(a:Sm4 p)(b:Sm4 q)(c:Sm4 r)(d:Sm4 s):bZ (vsub p q) (vsub r s)=X (dif p q) (dif r s):=by
 unfold Sm4 at*;rw[kN ⟨Aa,Aa⟩ ⟨Aa,Aa⟩,kN ⟨Aa,Aa⟩ ⟨Aa,Aa⟩,iK ⟨Aj,Aj⟩ ⟨Aj,Aj⟩ ⟨Aj,Aj⟩ ⟨Aj,Aj⟩];rfl
def X_bd(c:Sm4 p)(d:Sm4 q)(e:Sm4 r)(f:Sm4 s): -200000000<=X (dif p q) (dif r s)/\X (dif p q) (dif r s)<=200000000:=by
 unfold Sm4 at*;unfold X dif;simp only;have g:=vG (a:=p.1-q.1) (b:=r.2-s.2) ⟨Aa,Aa⟩ ⟨Aa,Aa⟩;have i:=vG (a:=p.2-q.2) (b:=r.1-s.1) ⟨Aa,Aa⟩ ⟨Aa,Aa⟩;omega
def xD(s t:Sg):Int:=X (dif s.2 s.1) (dif t.2 t.1)
def xA(s t:Sg):Int:=X (dif t.1 s.1) (dif t.2 t.1)
def xB(s t:Sg):Int:=X (dif t.1 s.1) (dif s.2 s.1)
def aM8(e:bI s)(f:bI t):jC s t=xD s t/\lX s t=xA s t/\lS s t=xB s t:=by
 let⟨a,b⟩:=jP.1 e;let⟨c,d⟩:=jP.1 f;exact⟨xU b a d c,xU c a d c,xU c a b a⟩
def bd_D(e:bI s)(f:bI t):(-200000000<=xD s t/\xD s t<=200000000)/\(-200000000<=xA s t/\xA s t<=200000000)/\(-200000000<=xB s t/\xB s t<=200000000):=by
 let⟨a,b⟩:=jP.1 e;let⟨c,d⟩:=jP.1 f;exact⟨X_bd b a d c,X_bd c a d c,X_bd c a b a⟩
def Bb(s:Sg)(p:Vc):Prop:=min s.1.1 s.2.1<=p.1/\p.1<=max s.1.1 s.2.1/\min s.1.2 s.2.2<=p.2/\p.2<=max s.1.2 s.2.2
theorem eY3 s p:bJ8 (aC7 [s.1,s.2]).1 p↔Bb s p:=by
 have a:(aC7 [s.1,s.2]).1=((min s.1.1 s.2.1,min s.1.2 s.2.2),(max s.1.1 s.2.1,max s.1.2 s.2.2)):=by
  show gU (gU (s.1,s.1) s.1) s.2=_;grind [gU]
 rw[a];unfold bJ8 Bb;simp only
theorem eU4(a:bI s)(h:Bb s p):Sm4 p:=by
 grind [jP,Sm4,Bb]
theorem gZ(a:bI s):eX s p↔Bb s p/\X (dif s.2 s.1) (dif p s.1)=0:=by
 grind [jP,eY3,xU,eU4,tC,eX,kR]
theorem zH(d:Sm4 a)(e:Sm4 b)(f:Sm4 c):kR a b c=cmpI (X (dif b a) (dif c a)) 0:=by
 unfold kR;rw[xU e d f d]
def uJ(a b d:Int):Int:=if a<0\/d<a\/b<0\/d<b then 0 else if a=0\/a=d\/b=0\/b=d then 1 else 2
theorem dI7(c:bI s)(d:bI t)(g:xD s t≠0):dG s t=if xD s t<0 then uJ (0-xA s t) (0-xB s t) (0-xD s t)else uJ (xA s t) (xB s t) (xD s t):=by
 let⟨b,e,f⟩:=aM8 c d;let⟨i,j,k⟩:=bd_D c d;unfold dG kQ;rw[Q9 (by rintro(h|h)<;>exact h Ag),QU (by rw[b];exact g)];unfold lines;rw[b,e,f];unfold turned;by_cases a:xD s t<0;rw[QU a,QU a,w_in (n:=0-xA s t) Aa,w_in (n:=0-xB s t) Aa,w_in (n:=0-xD s t) Aa];simp only;unfold uJ;split;rfl;rfl;rw[Q9 a,Q9 a];simp only;unfold uJ;split;rfl;rfl
def share{d k u v p:Int}(c:0<d)(h:d*(p-u)=k*(v-u))(f:0<=k)(g:k<=d):min u v<=p/\p<=max u v:=by
 rcases Int.lt_trichotomy u v with b|b|b;have i:0<=k*(v-u):=Int.mul_nonneg f Aa;have j:k*(v-u)<=d*(v-u):=Int.mul_le_mul_of_nonneg_right g Aa
 have l:0<=p-u:=by
  by_cases e:0<=p-u;exact e;have:=Int.mul_neg_of_pos_of_neg c (show p-u<0 from Aa);omega
 have m:p-u<=v-u:=Int.le_of_mul_le_mul_left (a:=d) Aa c;omega;subst b;rw[Int.sub_self,Int.mul_zero]at h;rcases Int.mul_eq_zero.1 h with h|h<;>omega;have i:0<=k*(u-v):=Int.mul_nonneg f Aa;have j:k*(u-v)<=d*(u-v):=Int.mul_le_mul_of_nonneg_right g Aa
 have n:d*(u-p)=k*(u-v):=by
  grind
 have l:0<=u-p:=by
  by_cases e:0<=u-p;exact e;have:=Int.mul_neg_of_pos_of_neg c (show u-p<0 from Aa);omega
 have m:u-p<=u-v:=Int.le_of_mul_le_mul_left (a:=d) Aa c;omega
def eJ0{d k u v p:Int}(j:0<d)(h:d*(p-u)=k*(v-u))(a:u≠v)(i:min u v<=p/\p<=max u v):0<=k/\k<=d:=by
 rcases Int.lt_or_gt_of_ne a with c|c;have e:0<=d*(p-u):=Int.mul_nonneg Aa Aa;have f:d*(p-u)<=d*(v-u):=Int.mul_le_mul_of_nonneg_left Aa Aa;constructor;by_cases b:0<=k;exact b;have:=Int.mul_neg_of_neg_of_pos (show k<0 from Aa) (show 0<v-u from Aa);omega;simp_all
 have g:d*(u-p)=k*(u-v):=by
  grind
 have e:0<=d*(u-p):=Int.mul_nonneg Aa Aa;have f:d*(u-p)<=d*(u-v):=Int.mul_le_mul_of_nonneg_left Aa Aa;constructor;by_cases b:0<=k;exact b;have:=Int.mul_neg_of_neg_of_pos (show k<0 from Aa) (show 0<u-v from Aa);omega;simp_all
theorem nO(a:0<d)(i:d*(p.1-u.1)=k*(v.1-u.1))(j:d*(p.2-u.2)=k*(v.2-u.2))(g:u≠v):Bb (u,v) p↔0<=k/\k<=d:=by
 constructor;rintro⟨b,c,e,f⟩;by_cases h:u.1=v.1;have:u.2≠v.2:=λn=>g (Prod.ext h n);exact eJ0 a j this ⟨e,f⟩;exact eJ0 a i h ⟨b,c⟩;rintro⟨l,m⟩;let⟨b,c⟩:=share a i l m;let⟨e,f⟩:=share a j l m;exact⟨b,c,e,f⟩
def eC4 s t:xD s t*(t.1.1-s.1.1)=xA s t*(s.2.1-s.1.1)-xB s t*(t.2.1-t.1.1)/\xD s t*(t.1.2-s.1.2)=xA s t*(s.2.2-s.1.2)-xB s t*(t.2.2-t.1.2):=by
 unfold xD xA xB X dif;grind
theorem vK s t:X (dif s.2 s.1) (dif t.1 s.1)= -xB s t/\X (dif s.2 s.1) (dif t.2 s.1)=xD s t-xB s t/\X (dif t.2 t.1) (dif s.1 t.1)=xA s t/\X (dif t.2 t.1) (dif s.2 t.1)=xA s t-xD s t:=by
 unfold xD xA xB X dif;grind
def Com(s t:Sg)(p:Vc):Prop:=eX s p/\eX t p
def uH(s t:Sg)(p:Vc):Prop:=p=s.1\/p=s.2\/p=t.1\/p=t.2
theorem rH(a:bI s):eX s s.1:=by
 rw[gZ a];refine⟨by unfold Bb;omega,?_⟩;unfold X dif;simp
def cN1(a:bI s):eX s s.2:=by
 rw[gZ a];refine⟨by unfold Bb;omega,?_⟩;unfold X dif;simp only;rw[Int.mul_comm];omega
structure Cr(s t:Sg)(a b d:Int):Prop where
 pos:0<d
 e1:d*(t.1.1-s.1.1)=a*(s.2.1-s.1.1)-b*(t.2.1-t.1.1)
 e2:d*(t.1.2-s.1.2)=a*(s.2.2-s.1.2)-b*(t.2.2-t.1.2)
 kA:xA s t=0↔a=0
 kA':xA s t=xD s t↔a=d
 kB:xB s t=0↔b=0
 kB':xB s t=xD s t↔b=d
def eS6(o:bI s)(r:bI t)(n:xD s t≠0)(h:Cr s t a b d):
 (eX t s.1↔a=0/\0<=b/\b<=d)/\(eX t s.2↔a=d/\0<=b/\b<=d)/\(eX s t.1↔b=0/\0<=a/\a<=d)/\(eX s t.2↔b=d/\0<=a/\a<=d):=by
 let⟨y,z,A,B⟩:=vK s t
 have g:s.1≠s.2:=by
  intro e;apply n;unfold xD X dif;rw[e];simp
 have i:t.1≠t.2:=by
  intro e;apply n;unfold xD X dif;rw[e];simp
 let⟨c,C,D,w,m,x,k⟩:=h;rw[gZ r,gZ r,gZ o,gZ o,y,z,A,B];refine⟨?_,?_,?_,?_⟩
 ·constructor
  ·rintro⟨j,l⟩
   have f:=w.1 l;subst f;refine⟨rfl,(nO (u:=t.1) (v:=t.2) (p:=s.1) c ?_ ?_ i).1 j⟩
   ·grind
   ·grind
  ·rintro⟨f,q⟩
   subst f;refine⟨(nO (u:=t.1) (v:=t.2) (p:=s.1) c ?_ ?_ i).2 q,w.2 rfl⟩
   ·grind
   ·grind
 ·constructor
  ·rintro⟨j,l⟩
   have f:=m.1 Aa;subst f;refine⟨rfl,(nO (u:=t.1) (v:=t.2) (p:=s.2) c ?_ ?_ i).1 j⟩
   ·grind
   ·grind
  ·rintro⟨f,q⟩
   subst f;grind [nO]
 ·constructor
  ·rintro⟨j,l⟩
   have f:=x.1 Aa;subst f;refine⟨rfl,(nO (u:=s.1) (v:=s.2) (p:=t.1) c ?_ ?_ g).1 j⟩
   ·grind
   ·grind
  ·rintro⟨f,q⟩
   subst f;refine⟨(nO (u:=s.1) (v:=s.2) (p:=t.1) c ?_ ?_ g).2 q,by have:=x.2 rfl;omega⟩
   ·grind
   ·grind
 ·constructor
  ·rintro⟨j,l⟩
   have f:=k.1 Aa;subst f;refine⟨rfl,(nO (u:=s.1) (v:=s.2) (p:=t.2) c ?_ ?_ g).1 j⟩
   ·grind
   ·grind
  ·rintro⟨f,q⟩
   subst f;refine⟨(nO (u:=s.1) (v:=s.2) (p:=t.2) c ?_ ?_ g).2 q,by have:=k.2 rfl;omega⟩
   ·grind
   ·grind
def cr_of(c:xD s t≠0):Cr s t (if xD s t<0 then 0-xA s t else xA s t) (if xD s t<0 then 0-xB s t else xB s t) (if xD s t<0 then 0-xD s t else xD s t):=by
 let⟨a,b⟩:=eC4 s t;by_cases h:xD s t<0;rw[QU h,QU h,QU h];exact⟨Aa,Bg,Bg,Aa,Aa,Aa,Aa⟩;rw[Q9 h,Q9 h,Q9 h];exact⟨Aa,a,b,RU,RU,RU,RU⟩
def aL3(d:X u w=0)(f:X v w=0)(b:w≠(0,0)):X u v=0:=by
 unfold X at*;by_cases h:w.1=0;have c:=λa=>b (Prod.ext h a)
 have e:w.2*(u.1*v.2-u.2*v.1)=0:=by
  grind
 grind [Int.mul_eq_zero];have e:w.1*(u.1*v.2-u.2*v.1)=0:=by grind
 rcases Int.mul_eq_zero.1 e with e|e;exact absurd e h;exact e
theorem eO4(c:bI s)(d:bI t)(k:xD s t≠0)(a:Com s t p)(b:Com s t q):p=q:=by
 by_cases h:p=q;exact h;exfalso;apply k;have f:=((gZ c).1 a.1).2;have g:=((gZ c).1 b.1).2;have i:=((gZ d).1 a.2).2;have j:=((gZ d).1 b.2).2;refine aL3 (u:=dif s.2 s.1) (v:=dif t.2 t.1) (w:=dif p q) ?_ ?_ ?_;have e:X (dif s.2 s.1) (dif p q)=X (dif s.2 s.1) (dif p s.1)-X (dif s.2 s.1) (dif q s.1):=by unfold X dif;simp only;grind
 rw[e,f,g];rfl;have e:X (dif t.2 t.1) (dif p q)=X (dif t.2 t.1) (dif p t.1)-X (dif t.2 t.1) (dif q t.1):=by unfold X dif;simp only;grind
 rw[e,i,j];rfl;intro e;apply h;have l:p.1-q.1=0:=RI Prod.fst e;have m:p.2-q.2=0:=RI Prod.snd e;exact Prod.ext Aa Aa
def zT9(s t:Sg):Prop:=kR s.1 s.2 t.1*kR s.1 s.2 t.2<0/\kR t.1 t.2 s.1*kR t.1 t.2 s.2<0
theorem cmp_neg:cmpI m 0*cmpI n 0<0↔(m<0/\0<n)\/(0<m/\n<0):=by
 grind [cmpI]
def wY(a:bI s)(b:bI t):zT9 s t↔((-xB s t<0/\0<xD s t-xB s t)\/(0< -xB s t/\xD s t-xB s t<0))/\((xA s t<0/\0<xA s t-xD s t)\/(0<xA s t/\xA s t-xD s t<0)):=by
 grind [jP,vK,zH,cmp_neg,zT9]
structure bT6(s t:Sg)(k:Int):Prop where
 over:k=3↔∃p q,uH s t p/\uH s t q/\p≠q/\Com s t p/\Com s t q
 touch:(∃p,uH s t p/\Com s t p)↔k=1\/k=3
 cross:k=2↔(¬∃p,uH s t p/\Com s t p)/\zT9 s t
theorem eK8(f:bI s)(g:bI t)(k:xD s t≠0):bT6 s t (dG s t):=by
 have l:=cr_of (s:=s) (t:=t) k;let⟨n,o,q,r⟩:=eS6 f g k l;have j:=wY f g
 have u:dG s t=uJ (if xD s t<0 then 0-xA s t else xA s t) (if xD s t<0 then 0-xB s t else xB s t) (if xD s t<0 then 0-xD s t else xD s t):=by
  rw[dI7 f g k];split<;>rfl
 have m:=l.pos
 have e:zT9 s t↔(0< (if xD s t<0 then 0-xB s t else xB s t)/\(if xD s t<0 then 0-xB s t else xB s t)< (if xD s t<0 then 0-xD s t else xD s t))/\(0< (if xD s t<0 then 0-xA s t else xA s t)/\(if xD s t<0 then 0-xA s t else xA s t)< (if xD s t<0 then 0-xD s t else xD s t)):=by
  rw[j];omega
 generalize (if xD s t<0 then 0-xA s t else xA s t)=a at*;generalize (if xD s t<0 then 0-xB s t else xB s t)=b at*;generalize (if xD s t<0 then 0-xD s t else xD s t)=d at*
 have c:(∃p,uH s t p/\Com s t p)↔uJ a b d=1:=by
  constructor;rintro⟨p,v,w,x⟩;unfold uJ;rcases v with rfl|rfl|rfl|rfl;grind;grind;grind;grind;intro h;unfold uJ at h;split at h;cases h;split at h;rename_i y i;rcases i with i|i|i|i;exact⟨s.1, .inl rfl,rH f,n.2 Aa⟩;exact⟨s.2, .inr (.inl rfl),cN1 f,o.2 Aa⟩;exact⟨t.1, .inr (.inr (.inl rfl)),q.2 Aa,rH g⟩;exact⟨t.2, .inr (.inr (.inr rfl)),r.2 Aa,cN1 g⟩;cases h
 have hv:uJ a b d=0\/uJ a b d=1\/uJ a b d=2:=by
  unfold uJ;split;simp;split<;>simp
 rw[u];refine⟨⟨λh=>Aa,?_⟩,?_,?_⟩;grind [eO4];rw[c];omega;rw[c,e];unfold uJ;omega
theorem cD2(h:Bb (u,u) p):p=u:=by
 grind [Bb]
theorem cW7(c:bI s)(e:bI t)(hd:xD s t=0)(b:s.1=s.2):bT6 s t (dG s t):=by
 have a:∀p,Com s t p↔p=s.1/\eX t s.1:=by
  intro p;constructor;rintro⟨f,g⟩;have d:=cD2 (u:=s.1) (by have:=((gZ c).1 f).1;unfold Bb at*;rw[<-b]at this;exact this);exact⟨d,d▸g⟩;rintro⟨rfl,h⟩;exact⟨rH c,h⟩
 have i:xB s t=0:=by unfold xB;rw[<-b];unfold X dif;simp
 have hcr:¬zT9 s t:=by rw[wY c e,i,hd];omega
 have j:dG s t=open Classical in if eX t s.1 then 1 else 0:=by
  let⟨e1,_,_⟩:=aM8 c e;unfold dG kQ;rw[Q9 (by rintro(h|h)<;>exact h Ag),Q9 Ij];by_cases h:eX t s.1;rw[QU ⟨b,h⟩,QU h];rfl;rw[Q9 (λq=>h q.2),Q9 h,Q9,QU (.inl b)];rfl;grind [cD2,gZ,rH,Bb]
 rw[j];by_cases h:eX t s.1;rw[QU h];refine⟨⟨λh=>Ah,?_⟩,⟨λ_=> .inl rfl,λ_=>⟨s.1, .inl rfl,(a _).2 ⟨rfl,h⟩⟩⟩,⟨λh=>Ah,λh=>absurd h.2 hcr⟩⟩;grind;exact KN
theorem dA9(f:bI s)(c:bI t)(hd:xD s t=0)(d:s.1≠s.2)(b:t.1=t.2):bT6 s t (dG s t):=by
 have a:∀p,Com s t p↔p=t.1/\eX s t.1:=by
  intro p;constructor;rintro⟨g,i⟩;have e:=cD2 (u:=t.1) (by have:=((gZ c).1 i).1;unfold Bb at*;rw[<-b]at this;exact this);exact⟨e,e▸g⟩;rintro⟨rfl,h⟩;exact⟨h,rH c⟩
 have j:xA s t=0:=by unfold xA;rw[<-b];unfold X dif;simp
 have hcr:¬zT9 s t:=by rw[wY f c,j,hd];omega
 have k:dG s t=open Classical in if eX s t.1 then 1 else 0:=by
  let⟨e1,_,_⟩:=aM8 f c;unfold dG kQ;rw[Q9 (by rintro(h|h)<;>exact h Ag),Q9 Ij,Q9 (λq=>d q.1)];by_cases h:eX s t.1;rw[QU ⟨b,h⟩,QU h];rfl;rw[Q9 (λq=>h q.2),Q9 h,QU (.inr (.inl b))];rfl
 rw[k];by_cases h:eX s t.1;rw[QU h];refine⟨⟨λh=>Ah,?_⟩,⟨λ_=> .inl rfl,λ_=>⟨t.1, .inr (.inr (.inl rfl)),(a _).2 ⟨rfl,h⟩⟩⟩,⟨λh=>Ah,λh=>absurd h.2 hcr⟩⟩;grind;exact KN
def bZ7(h:a≠b):dif b a≠(0,0):=by
 intro e;have c:b.1-a.1=0:=RI Prod.fst e;have d:b.2-a.2=0:=RI Prod.snd e;exact h (Prod.ext Aa Aa)
theorem dR9(e:bI s)(f:bI t)(hd:xD s t=0)(g:s.1≠s.2)(k:t.1≠t.2)(o:xB s t≠0):bT6 s t (dG s t):=by
 let⟨a,b⟩:=jP.1 e;let⟨c,d⟩:=jP.1 f;let⟨l,y,z,A⟩:=vK s t
 have j:∀p,¬Com s t p:=by
  rintro p ⟨u,v⟩;have m:=((gZ e).1 u).2;have x:=((gZ f).1 v).2;have e1:=aL3 (w:=dif t.2 t.1) hd (by unfold X at*;rw[Int.mul_comm,Int.mul_comm (dif p t.1).2];omega) (bZ7 k);apply o;have n:X (dif s.2 s.1) (dif t.1 s.1)=X (dif s.2 s.1) (dif p s.1)-X (dif s.2 s.1) (dif p t.1):=AQ;rw[l,m,e1]at n;omega
 have i:¬zT9 s t:=by rw[wY e f,hd];omega
 have r:dG s t=0:=by
  let⟨e1,_,_⟩:=aM8 e f;unfold dG kQ;rw[Q9 (by rintro(h|h)<;>exact h Ag),Q9 Ij,Q9 (λq=>g q.1),Q9 (λq=>k q.1),QU (.inr (.inr (by rw[zH a b c,l,tC];omega)))];rfl
 rw[r];refine⟨⟨λh=>Ah,?_⟩,⟨?_,λh=>Gm⟩,⟨λh=>Ah,λh=>absurd h.2 i⟩⟩;simp_all;rintro⟨p,_,g⟩;exact absurd g (j p)
def co(w p:Vc):Int:=if w.2≠0 then p.2 else p.1
def onL(w o p:Vc):Prop:=X w (dif p o)=0
def xR(a:onL w o p)(b:onL w o q):w.1*(p.2-q.2)=w.2*(p.1-q.1):=by
 unfold onL X dif at*;simp only at*;grind
theorem bX1{w o p q:Vc}(hw:w≠(0,0))(a:onL w o p)(b:onL w o q)(h:co w p=co w q):p=q:=by
 have e:=xR a b;unfold co at h;by_cases h2:w.2=0;rw[Q9 H7,Q9 H7]at h;exact PE;rw[QU h2,QU h2]at h;rw[show p.2-q.2=0 from Aa,Int.mul_zero]at e;grind [Int.mul_eq_zero]
def aZ9{w o p q:Vc}(hw:w≠(0,0))(a:onL w o p)(b:onL w o q):kF p q↔co w p<co w q:=by
 rw[aG2];have e:=xR a b;unfold co;by_cases h2:w.2=0;rw[Q9 H7,Q9 H7];exact PE;rw[QU h2,QU h2];constructor;rintro(h|⟨h,h'⟩);exact h;rw[show p.2-q.2=0 from Aa,Int.mul_zero]at e;rcases Int.mul_eq_zero.1 e.symm with e|e;exact absurd e h2;omega;exact λh=> .inl h
def dE8{w o p q r:Vc}(i:w≠(0,0))(a:onL w o p)(m:onL w o q)(n:onL w o r):Bb (p,q) r↔min (co w p) (co w q)<=co w r/\co w r<=max (co w p) (co w q):=by
 have y:=xR n a;have z:=xR m a;unfold Bb;simp only;by_cases h2:w.2=0;have D:=λA=>i (Prod.ext A h2);unfold co;rw[Q9 H7,Q9 H7,Q9 H7];rw[h2,Int.zero_mul]at y z;grind [Int.mul_eq_zero];unfold co;rw[QU h2,QU h2,QU h2];constructor;rintro⟨_,_,b,c⟩;exact⟨b,c⟩;rintro⟨b,c⟩
 have s:(q.2-p.2)*(r.1-p.1)=(r.2-p.2)*(q.1-p.1):=by
  have:w.2*((q.2-p.2)*(r.1-p.1)- (r.2-p.2)*(q.1-p.1))=0:=Bg;grind [Int.mul_eq_zero]
 rcases Int.lt_trichotomy p.2 q.2 with C|e|B;let⟨j,l⟩:=share (d:=q.2-p.2) (k:=r.2-p.2) (u:=p.1) (v:=q.1) (p:=r.1) Aa s Aa Aa;simp_all;have f:=bX1 i a m (by unfold co;rw[QU h2,QU h2];exact e);have g:=bX1 i n a (by unfold co;rw[QU h2,QU h2];omega);subst g;subst f;omega
 let⟨j,l⟩:=share (d:=p.2-q.2) (k:=p.2-r.2) (u:=p.1) (v:=q.1) (p:=r.1) Aa (by
  have t:(p.2-q.2)*(r.1-p.1)= -((q.2-p.2)*(r.1-p.1)):=Fa;have x:(p.2-r.2)*(q.1-p.1)= -((r.2-p.2)*(q.1-p.1)):=Fa
  rw[t,x,s]) Aa Aa
 exact⟨j,l,b,c⟩
def bS9:vcmp a b=0↔a=b:=by
 grind [vcmp,orI,cmpI]
theorem dD9:vcmp a b= -1↔kF a b:=by
 grind [gC8,kF]
def cE8{A B C D lo hi}(a:lo=max (min A B) (min C D))(b:hi=min (max A B) (max C D))(x:Int):((min A B<=x/\x<=max A B)/\(min C D<=x/\x<=max C D))↔lo<=x/\x<=hi:=by
 omega
def eN9{A B C D lo:Int}(a:lo=max (min A B) (min C D)):lo=A\/lo=B\/lo=C\/lo=D:=Aa
def eL9{A B C D hi:Int}(a:hi=min (max A B) (max C D)):hi=A\/hi=B\/hi=C\/hi=D:=Aa
theorem eA6(hs:bI s)(ht:bI t)(hd:xD s t=0)(x:s.1≠s.2)(M:t.1≠t.2)(r:xB s t=0):bT6 s t (dG s t):=by
 let⟨a,b⟩:=jP.1 hs;let⟨c,d⟩:=jP.1 ht;let⟨V,x2,x3,x4⟩:=vK s t;have hw:=bZ7 x;have la:onL (dif s.2 s.1) s.1 s.1:=by unfold onL X dif;simp
 have lb:onL (dif s.2 s.1) s.1 s.2:=EQ;have lc:onL (dif s.2 s.1) s.1 t.1:=by unfold onL;rw[V,r];rfl
 have ld:onL (dif s.2 s.1) s.1 t.2:=by unfold onL;rw[x2,r,hd];rfl
 have i:∀p,uH s t p->onL (dif s.2 s.1) s.1 p:=by
  rintro p (rfl|rfl|rfl|rfl)<;>assumption
 have lt':∀p,onL (dif s.2 s.1) s.1 p->X (dif t.2 t.1) (dif p t.1)=0:=λp hp=>JR
 have N:∀p,onL (dif s.2 s.1) s.1 p->(Com s t p↔(min (co (dif s.2 s.1) s.1) (co (dif s.2 s.1) s.2)<=co (dif s.2 s.1) p/\co (dif s.2 s.1) p<=max (co (dif s.2 s.1) s.1) (co (dif s.2 s.1) s.2))/\
  (min (co (dif s.2 s.1) t.1) (co (dif s.2 s.1) t.2)<=co (dif s.2 s.1) p/\co (dif s.2 s.1) p<=max (co (dif s.2 s.1) t.1) (co (dif s.2 s.1) t.2))):=λp hp=>by
  exact Ox
 have y:¬zT9 s t:=by rw[wY hs ht,r,hd];omega
 have g:∀(q:Sg),onL (dif s.2 s.1) s.1 q.1->onL (dif s.2 s.1) s.1 q.2->onL (dif s.2 s.1) s.1 (ordS q).1/\onL (dif s.2 s.1) s.1 (ordS q).2/\co (dif s.2 s.1) (ordS q).1=min (co (dif s.2 s.1) q.1) (co (dif s.2 s.1) q.2)/\co (dif s.2 s.1) (ordS q).2=max (co (dif s.2 s.1) q.1) (co (dif s.2 s.1) q.2):=λq o Z=>by
  have k:=aZ9 hw Z o;grind [cZ7,cY4]
 let⟨s1,s2,R,S⟩:=g s la lb;let⟨t1,t2,T,U⟩:=g t lc ld
 have F:onL (dif s.2 s.1) s.1 (hiLo (ordS s) (ordS t)).1/\onL (dif s.2 s.1) s.1 (hiLo (ordS s) (ordS t)).2/\co (dif s.2 s.1) (hiLo (ordS s) (ordS t)).1=max (co (dif s.2 s.1) (ordS s).1) (co (dif s.2 s.1) (ordS t).1)/\co (dif s.2 s.1) (hiLo (ordS s) (ordS t)).2=min (co (dif s.2 s.1) (ordS s).2) (co (dif s.2 s.1) (ordS t).2):=by
  have k1:=aZ9 hw s1 t1;have k2:=aZ9 hw t2 s2;unfold hiLo;simp only;refine⟨?_,?_,?_,?_⟩;split<;>assumption;split<;>assumption;split;rename_i h;have:=k1.1 h;omega;rename_i h;have:¬co (dif s.2 s.1) (ordS s).1<co (dif s.2 s.1) (ordS t).1:=λq=>h (k1.2 q);omega;split<;>grind
 have O:dG s t=(yD (hiLo (ordS s) (ordS t))).kind:=by
  let⟨e1,_,_⟩:=aM8 hs ht;unfold dG kQ;rw[Q9 (by rintro(h|h)<;>exact h Ag),Q9 Ij,Q9 (λq=>x q.1),Q9 (λq=>M q.1),Q9];rintro(h|h|h);exact x h;exact M h;exact h (by rw[zH a b c,V,r];rfl)
 let⟨P,Q,u,v⟩:=F;rw[R,T]at u;rw[S,U]at v
 have E:(co (dif s.2 s.1) (hiLo (ordS s) (ordS t)).1=co (dif s.2 s.1) (hiLo (ordS s) (ordS t)).2/\dG s t=1)\/(co (dif s.2 s.1) (hiLo (ordS s) (ordS t)).1<co (dif s.2 s.1) (hiLo (ordS s) (ordS t)).2/\dG s t=3)\/(co (dif s.2 s.1) (hiLo (ordS s) (ordS t)).2<co (dif s.2 s.1) (hiLo (ordS s) (ordS t)).1/\dG s t=0):=by
  rw[O];generalize hiLo (ordS s) (ordS t)=q at*;have k:=aZ9 hw P Q;unfold yD;by_cases n:vcmp q.1 q.2=0;rw[QU n];left;exact⟨by rw[bS9.1 n],rfl⟩;rw[Q9 n];have aa:co (dif s.2 s.1) q.1≠co (dif s.2 s.1) q.2:=λh=>n (bS9.2 (bX1 hw P Q h));by_cases o:vcmp q.1 q.2= -1;simp_all [QU,dD9];rw[Q9 o];right;right;have:¬co (dif s.2 s.1) q.1<co (dif s.2 s.1) q.2:=λh=>o (dD9.2 (k.2 h));exact⟨Aa,rfl⟩
 have f:=cE8 (A:=co (dif s.2 s.1) s.1) (B:=co (dif s.2 s.1) s.2) (C:=co (dif s.2 s.1) t.1) (D:=co (dif s.2 s.1) t.2) u v;have G:=eN9 (A:=co (dif s.2 s.1) s.1) (B:=co (dif s.2 s.1) s.2) (C:=co (dif s.2 s.1) t.1) (D:=co (dif s.2 s.1) t.2) u;have H:=eL9 (A:=co (dif s.2 s.1) s.1) (B:=co (dif s.2 s.1) s.2) (C:=co (dif s.2 s.1) t.1) (D:=co (dif s.2 s.1) t.2) v;have m:=λp hp=>(N p hp).trans (f _);clear N f u v R S T U g O lt';generalize co (dif s.2 s.1) (hiLo (ordS s) (ordS t)).1=lo at*;generalize co (dif s.2 s.1) (hiLo (ordS s) (ordS t)).2=hi at*
 have j:∀z,(z=co (dif s.2 s.1) s.1\/z=co (dif s.2 s.1) s.2\/z=co (dif s.2 s.1) t.1\/z=co (dif s.2 s.1) t.2)->∃p,uH s t p/\co (dif s.2 s.1) p=z:=by
  rintro z (h|h|h|h);exact⟨_, .inl rfl,h.symm⟩;exact⟨_, .inr (.inl rfl),h.symm⟩;exact⟨_, .inr (.inr (.inl rfl)),h.symm⟩;exact⟨_, .inr (.inr (.inr rfl)),h.symm⟩
 let⟨pl,K,L⟩:=j _ G;let⟨ph,I,J⟩:=j _ H;have Y:=m _ (i _ K);have W:=m _ (i _ I);rw[L]at Y;rw[J]at W
 have l:(∃p,uH s t p/\Com s t p)↔dG s t=1\/dG s t=3:=by
  grind
 refine⟨⟨λh=>?_,?_⟩,l,⟨λh=>Aa,λh=>absurd h.2 y⟩⟩;grind;grind [bX1]
def tells(a:bI s)(b:bI t):bT6 s t (dG s t):=by
 grind [cW7,dA9,eA6,dR9,eK8]
theorem bJ0(a:Sm4 p)(b:Sm4 v):toP (p.1,p.2,1) v=dif p v:=by
 unfold Sm4 at*;unfold toP dif;grind [w_in]
theorem dF8(c:Sm4 p)(d:bI e):bV4 (p.1,p.2,1) e=X (dif e.2 e.1) (dif p e.1):=by
 let⟨a,b⟩:=jP.1 d;unfold bV4;rw[bJ0 c a];unfold Sm4 at*;rw[kN ⟨Aa,Aa⟩ ⟨Aa,Aa⟩];unfold dif;rw[iK ⟨Aj,Aj⟩ ⟨Aj,Aj⟩ ⟨Aj,Aj⟩ ⟨Aj,Aj⟩];rfl
def cC3(a:Sm4 p)(b:bI e):onE (p.1,p.2,1) e↔eX e p:=by
 grind [jP,gZ,dF8,bJ0,onE,Bb,dif]
def rayC(e:Sg)(p:Vc)(z:Int):Prop:=(e.1.2<=p.2/\p.2<e.2.2/\0<z)\/(e.2.2<=p.2/\p.2<e.1.2/\z<0)
theorem dD7(f:Sm4 p)(g:bI e)(i:¬eX e p):rW (p.1,p.2,1) e↔rayC e p (X (dif e.2 e.1) (dif p e.1)):=by
 let⟨a,b⟩:=jP.1 g;rw[gZ g]at i;unfold rW;rw[dF8 f g,bJ0 f a,bJ0 f b]
 have q:e.2.2<=p.2->p.2<e.1.2->X (dif e.2 e.1) (dif p e.1)≠0:=by
  intro n o c;apply i;refine⟨?_,c⟩;unfold X dif at c;let⟨r,s⟩:=share (d:=e.1.2-e.2.2) (k:=e.1.2-p.2) (u:=e.1.1) (v:=e.2.1) (p:=p.1) Aa Bg Aa Aa;unfold Bb;omega
 generalize X (dif e.2 e.1) (dif p e.1)=z at*;unfold rayC dif;constructor;omega;rintro(⟨j,l,m⟩|⟨j,l,m⟩);omega;exact⟨λh=>by have:=h.2 Aa;omega,λh=>Aa,λh=>Aa⟩
theorem pY:within v 4000↔Sm4 v:=by
 exact RU
theorem bC7(h:Sm4 p):wJ (p.1,p.2,1):=by
 refine⟨⟨(by decide:(1:Int)<=1),(by decide:(1:Int)<=134217728),?_⟩,gcd_one _⟩;exact pY.2 h
theorem aE1{r:Rg}(h:i<r.length):r.getD i z0∈r:=LW
def bA6(h:i<r.length):iU r i∈r:=aE1 (SC _ Aa)
def jO(c:bR7 r)(b:e∈bF r):bI e:=by
 unfold bF at b;split at b;cases b;obtain⟨i,hi,rfl⟩:=Rn.1 b;have a:=Tf.1 hi;have d:=c _ (aE1 a);have f:=c _ (bA6 a);rw[within_iff Aa]at d f;refine jP.2 ⟨?_,?_⟩;show Sm4 (r.getD i z0);unfold Sm4;omega;show Sm4 (iU r i);unfold Sm4;omega
def bC8(b:3<=r.length)(hv:v∈r):∃e∈bF r,e.1=v:=by
 let⟨i,hi,a⟩:=List.mem_iff_getElem.1 hv;refine⟨aJ4 r i,?_,?_⟩;unfold bF;rw[Q9 Aa];exact RD (Tf.2 hi);show r.getD i z0=v;rw[Sz,QX hi,a];rfl
theorem yZ:∀ {l} {b},lU p l b=1↔∃e∈l,onE p e
 | [],b=>by rw[qB];cases b<;>simp
 |e::l,b=>by
  by_cases h:onE p e;rw[oP h];exact⟨λ_=>⟨e,Ad,h⟩,λ_=>rfl⟩;by_cases a:rW p e;simp_all [rE,yZ,Rl];simp_all [jD,yZ,Rl]
def sgn(x y:Int):(0<x->0<y->0<x*y)/\(0<x->y<0->x*y<0)/\(x<0->0<y->x*y<0)/\(x<0->y<0->0<x*y)/\(x=0->x*y=0)/\(y=0->x*y=0):=
 ⟨Int.mul_pos,Int.mul_neg_of_pos_of_neg,Int.mul_neg_of_neg_of_pos,Int.mul_pos_of_neg_of_neg,λh=>by rw[h,Int.zero_mul],λh=>by rw[h,Int.mul_zero]⟩
def ray(e:Sg)(p:Vc):Prop:=rayC e p (X (dif e.2 e.1) (dif p e.1))
def inRt(p q z:Vc):Prop:=p.2<z.2/\z.2<=q.2/\X (dif q p) (dif z p)<0
def Sep(p q:Vc)(e:Sg):Prop:=
 (0<X (dif q p) (dif e.1 p)/\0<X (dif q p) (dif e.2 p))\/(X (dif q p) (dif e.1 p)<0/\X (dif q p) (dif e.2 p)<0)\/
 (0<X (dif e.2 e.1) (dif p e.1)/\0<X (dif e.2 e.1) (dif q e.1))\/(X (dif e.2 e.1) (dif p e.1)<0/\X (dif e.2 e.1) (dif q e.1)<0)\/
 (X (dif q p) (dif e.1 p)=0/\X (dif q p) (dif e.2 p)=0/\X (dif e.2 e.1) (dif p e.1)=0/\X (dif e.2 e.1) (dif q e.1)=0)
def fK2{w G:Int}(a:0<w):(0<G↔0<w*G)/\(G<0↔w*G<0):=by
 have s:=sgn w G;omega
def eB3{w a b Sc Sd c d:Int}(j:0<w)(e:w*c=a*Sd-b*Sc)(f:w*d=(a-w)*Sd- (b-w)*Sc)
 (m:(0<Sc/\0<Sd)\/(Sc<0/\Sd<0)\/(0<c/\0<d)\/(c<0/\d<0)\/(Sc=0/\Sd=0/\c=0/\d=0)):
 ((((a<=0/\0<b/\0<c)\/(b<=0/\0<a/\c<0))↔((a<=w/\w<b/\0<d)\/(b<=w/\w<a/\d<0)))↔((0<a/\a<=w/\Sc<0)↔(0<b/\b<=w/\Sd<0))):=by
 have k:=fK2 (G:=c) j;have l:=fK2 (G:=d) j;rw[e]at k;rw[f]at l;clear e f;have hz:a-w<0\/a-w=0\/0<a-w:=Aa;have hy:b-w<0\/b-w=0\/0<b-w:=Aa;rcases m with⟨hSc,hSd⟩|⟨hSc,hSd⟩|⟨g,i⟩|⟨g,i⟩|⟨g,i,n,o⟩
 ·exact IX
 ·exact IX
 ·exact IV
 ·exact IV
 ·omega
theorem ids p q c d:(q.2-p.2)*X (dif d c) (dif p c)=(c.2-p.2)*X (dif q p) (dif d p)- (d.2-p.2)*X (dif q p) (dif c p)/\
 (q.2-p.2)*X (dif d c) (dif q c)=(c.2-p.2- (q.2-p.2))*X (dif q p) (dif d p)- (d.2-p.2- (q.2-p.2))*X (dif q p) (dif c p):=by
 unfold X dif;constructor<;>grind
def eT3(g:p.2<=q.2)(h:Sep p q e):(ray e p↔ray e q)↔(inRt p q e.1↔inRt p q e.2):=by
 let⟨c,d⟩:=e;let⟨j,l⟩:=ids p q c d;unfold Sep at h;unfold ray rayC inRt;by_cases i:p.2=q.2;have f:∀z:Vc,X (dif q p) (dif z p)=(q.1-p.1)*(z.2-p.2):=λz=>by unfold X dif;rw[i];simp
 have n:=sgn (q.1-p.1) (c.2-p.2);have o:=sgn (q.1-p.1) (d.2-p.2);grind;have k:=eB3 (w:=q.2-p.2) (a:=c.2-p.2) (b:=d.2-p.2) Aa j l h;grind
theorem dW0(h:Sep p q e):Sep q p e:=by
 have a:∀z:Vc,X (dif p q) (dif z q)= -X (dif q p) (dif z p):=λz=>AQ;unfold Sep at*;rw[a,a];omega
structure Onp(N k:Int)(c d z:Vc):Prop where
 pos:0<N
 lo:0<=k
 hi:k<=N
 e1:N*(z.1-c.1)=k*(d.1-c.1)
 e2:N*(z.2-c.2)=k*(d.2-c.2)
def eN3(h:Onp N N c d z):z=d:=by
 have a:=Int.eq_of_mul_eq_mul_left (by have:=h.pos;omega) h.e1;have b:=Int.eq_of_mul_eq_mul_left (by have:=h.pos;omega) h.e2;exact Prod.ext Aa Aa
def dI1{N m x y:Int}(b:0<N)(c:0<m)(h:N*x=m*y):(0<y->0<x)/\(y<0->x<0)/\(y=0->x=0):=by
 have d:=sgn N x;have a:=sgn m y;omega
def eT5{N m k x y z:Int}(a:0<N)(c:0<m)(b:0<=k)(h:N*x=m*y+k*z):(0<y->0<z->0<x)/\(y<0->z<0->x<0)/\(y=0->z=0->x=0):=by
 have d:=sgn N x;have e:=sgn m y;have f:=sgn k z;grind
def eL1(i:Onp N k c d z)(q:k<N)(h:Sep c d e):Sep z d e:=by
 obtain⟨a,f,_,j,l⟩:=i
 have b:∀u:Vc,N*X (dif d z) (dif u z)=(N-k)*X (dif d c) (dif u c):=λu=>by
  unfold X dif;simp only;grind
 have g:N*X (dif e.2 e.1) (dif z e.1)=(N-k)*X (dif e.2 e.1) (dif c e.1)+k*X (dif e.2 e.1) (dif d e.1):=by
  unfold X dif;simp only;grind
 have m:=dI1 a Aa (b e.1);have n:=dI1 a Aa (b e.2);have o:=eT5 a Aa f g;clear b g j l;unfold Sep at*;omega
def rC(g:bI s)(i:bI t)(a:s.1≠s.2)(h:dG s t=0):Sep s.1 s.2 t:=by
 let⟨b,c,d,e⟩:=vK s t;unfold Sep;by_cases f:xD s t=0;omega;grind [dI7,uJ]
section
variable{α β:Type}
def xr(l:List α)(f:α->Bool):Bool:=l.foldr (λx b=>f x^^b) false
theorem fD4(f:α->Bool):xr [] f=false:=rfl
theorem nS x l(f:α->Bool):xr (x::l) f=(f x^^xr l f):=rfl
theorem cY7 f:∀l m:List α,xr (l++m) f=(xr l f^^xr m f)
 | [],m=>by rw[Uj,fD4];cases xr m f<;>rfl
 |x::l,m=>by
  rw[Ur,nS,nS,cY7 f l m];cases f x<;>cases xr l f<;>cases xr m f<;>rfl
theorem jF:∀ {l},(∀x∈l,f x=g x)->xr l f=xr l g
 | [],_=>rfl
 |x::l,h=>by rw[nS,nS,h x (by simp),jF (λy a=>h y (by simp[a]))]
theorem aD0:∀l:List α,xr l (λ_=>false)=false
 | [] =>rfl
 |x::l=>by rw[nS,aD0 l];rfl
theorem cA9 f g:∀l:List α,xr l (λx=>f x^^g x)=(xr l f^^xr l g)
 | [] =>rfl
 |x::l=>by
  rw[nS,nS,nS,cA9 f g l];cases f x<;>cases g x<;>cases xr l f<;>cases xr l g<;>rfl
theorem bW6 c f(l:List α):xr l (λx=>c&&f x)=(c&&xr l f):=by
 cases c;exact aD0 l;exact jF (λx _=>Bool.true_and _)
theorem dI9(f:α->β->Bool) m:∀l,xr l (λx=>xr m (f x))=xr m (λy=>xr l (λx=>f x y))
 | [] =>(aD0 m).symm
 |x::l=>by
  rw[nS,dI9 f m l,<-cA9];grind [jF,nS]
theorem cW9 g(f:α->Bool):∀l:List β,xr (l.map g) f=xr l (λx=>f (g x))
 | [] =>rfl
 |x::l=>by rw[Rt,nS,nS,cW9 g f l]
end
def par(p:Vc)(l:List Sg):Bool:=xr l (λe=>decB (ray e p))
theorem dZ6(h:p↔q):decB p=decB q:=fQ h
def fA6(a:p.2<=q.2)(h:Sep p q e):(decB (ray e p)^^decB (ray e q))=(decB (inRt p q e.1)^^decB (inRt p q e.2)):=by
 have k:=eT3 a h;grind
def dD(v:Nat->Vc)(n:Nat):List Sg:=(List.range n).map λi=>(v (i% n),v ((i+1)% n))
def dL9:∀a b c d x y z,(a^^b)=(x^^y)->(c^^d)=(y^^z)->((a^^c)^^(b^^d))=(x^^z):=Ai
def cF0(a:p.2<=q.2)(u:Nat->Vc):∀k,(∀i,i<k->Sep p q (u i,u (i+1)))->
 (par p ((List.range k).map λi=>(u i,u (i+1)))^^par q ((List.range k).map λi=>(u i,u (i+1))))=(decB (inRt p q (u 0))^^decB (inRt p q (u k)))
 |0,_=>by
  cases decB (inRt p q (u 0))<;>rfl
 |k+1,h=>by
  have c:=cF0 a u k (λi hi=>h i Aa);have b:=fA6 a (h k Aa);rw[UF,RH];unfold par at*;rw[cY7,cY7];refine dL9 _ _ _ _ _ _ _ c ?_;rw[<-b];show(((decB (ray (u k,u (k+1)) p))^^false)^^((decB (ray (u k,u (k+1)) q))^^false))=_;rw[Bool.xor_false,Bool.xor_false]
def eN7:∀a b c,(a^^b)=(c^^c)->a=b:=Ai
theorem eE9(a:p.2<=q.2) v n(h:∀e∈dD v n,Sep p q e):par p (dD v n)=par q (dD v n):=by
 have k:=cF0 a (λi=>v (i% n)) n (λi hi=>h _ (Rn.2 ⟨i,Tf.2 hi,rfl⟩));have e:v (n% n)=v (0% n):=by rw[Nat.mod_self,Nat.zero_mod]
 simp only[e]at k;exact eN7 _ _ _ k
def dT7 v n(h:∀e∈dD v n,Sep p q e):par p (dD v n)=par q (dD v n):=by
 grind [Int.le_total,eE9,dW0]
def mulV(N:Int)(v:Vc):Vc:=(N*v.1,N*v.2)
def mulS(N:Int)(e:Sg):Sg:=(mulV N e.1,mulV N e.2)
theorem bQ3 N v n:dD (λi=>mulV N (v i)) n=(dD v n).map (mulS N):=by
 unfold dD;rw[TI];rfl
theorem cG9 N a b c d:X (dif (mulV N a) (mulV N b)) (dif (mulV N c) (mulV N d))=N*N*X (dif a b) (dif c d):=by
 unfold X dif mulV;grind
def sq_pos{N:Int}(a:0<N):0<N*N:=Int.mul_pos a a
def aM0{N x y:Int}(a:0<N)(h:y=N*x):(0<y↔0<x)/\(y<0↔x<0)/\(y=0↔x=0):=by
 have s:=sgn N x;omega
theorem le_mul{N a b:Int}(c:0<N):(N*a<=N*b↔a<=b)/\(N*a<N*b↔a<b):=
 ⟨⟨λh=>Int.le_of_mul_le_mul_left h c,λh=>Int.mul_le_mul_of_nonneg_left h Aa⟩,⟨λh=>Int.lt_of_mul_lt_mul_left h Aa,λh=>Int.mul_lt_mul_of_pos_left h c⟩⟩
theorem eL6(a:0<N) e p:ray (mulS N e) (mulV N p)↔ray e p:=by
 unfold ray rayC;have k:=aM0 (sq_pos a) (cG9 N e.2 e.1 p e.1);show(N*e.1.2<=N*p.2/\N*p.2<N*e.2.2/\0<X (dif (mulV N e.2) (mulV N e.1)) (dif (mulV N p) (mulV N e.1)))\/(N*e.2.2<=N*p.2/\N*p.2<N*e.1.2/\X (dif (mulV N e.2) (mulV N e.1)) (dif (mulV N p) (mulV N e.1))<0)↔_;simp_all
def dD0(a:0<N) p l:par (mulV N p) (l.map (mulS N))=par p l:=by
 grind [cW9,jF,dZ6,eL6,par]
def eQ5(a:0<N)(h:Sep p q e):Sep (mulV N p) (mulV N q) (mulS N e):=by
 have b:=aM0 (sq_pos a) (cG9 N q p e.1 p);have c:=aM0 (sq_pos a) (cG9 N q p e.2 p);have d:=aM0 (sq_pos a) (cG9 N e.2 e.1 p e.1);have f:=aM0 (sq_pos a) (cG9 N e.2 e.1 q e.1);grind [Sep,mulS]
def cE3(a:0<M) v n(f:Onp N k (mulV M c) (mulV M d) z)(h:∀e∈dD v n,Sep c d e):
 par z ((dD v n).map (mulS M))=par d (dD v n):=by
 by_cases j:k=N
 ·subst j
  rw[eN3 f,dD0 a]
 ·rw[<-dD0 a d,<-bQ3]
  refine dT7 _ n (λe g=>?_);rw[bQ3]at g;obtain⟨i,b,rfl⟩:=Rn.1 g;exact eL1 f (by have:=f.hi;omega) (eQ5 a (h i b))
theorem aN8 v:mulV 1 v=v:=by unfold mulV;rw[Int.one_mul,Int.one_mul]
theorem eD5 e:mulS 1 e=e:=by unfold mulS;rw[aN8,aN8]
def eY9 v n(a:Onp N k c d z)(h:∀e∈dD v n,Sep c d e):
 par z (dD v n)=par d (dD v n):=by
 have e:(dD v n).map (mulS 1)=dD v n:=by
  grind [List.map_id,Ti,eD5,dD]
 have:=cE3 (M:=1) Ai v n (by rw[aN8,aN8];exact a) h;rw[e]at this;exact this
def dH1(h:∀e∈l,e.1.2<=p.2/\e.2.2<=p.2):par p l=false:=by
 grind [aD0,jF,dW,par,ray,rayC]
def mZ(e:Sg)(h:Int):Prop:=(e.1.2<=h/\h<e.2.2)\/(e.2.2<=h/\h<e.1.2)
def pN(e:Sg):Int:=if e.1.2<e.2.2 then e.2.2-e.1.2 else e.1.2-e.2.2
def pK(e:Sg)(h:Int):Int:=if e.1.2<e.2.2 then h-e.1.2 else e.1.2-h
def pX(e:Sg)(h:Int):Int:=pN e*e.1.1+pK e h*(e.2.1-e.1.1)
def aO5(a:mZ e h):0<pN e/\0<=pK e h/\pK e h<=pN e/\pN e*(h-e.1.2)=pK e h*(e.2.2-e.1.2):=by
 unfold mZ at a;unfold pN pK;grind
theorem aQ3:ray e p↔mZ e p.2/\pN e*p.1<pX e p.2:=by
 unfold ray rayC mZ pX pN pK;by_cases h:e.1.2<e.2.2;rw[QU h,QU h];have k:X (dif e.2 e.1) (dif p e.1)=(e.2.2-e.1.2)*e.1.1+(p.2-e.1.2)*(e.2.1-e.1.1)- (e.2.2-e.1.2)*p.1:=AQ;omega;rw[Q9 h,Q9 h];have k:X (dif e.2 e.1) (dif p e.1)=(e.1.2-e.2.2)*p.1- ((e.1.2-e.2.2)*e.1.1+(e.1.2-p.2)*(e.2.1-e.1.1)):=AQ;omega
def aft(h:Int)(f g:Sg):Prop:=mZ g h/\pN g*pX f h<pN f*pX g h
theorem dU4(a:0<N) e:pN (mulS N e)=N*pN e:=by
 unfold pN mulS mulV;exact Pn
theorem eZ8(a:0<N) e h:pK (mulS N e) (N*h)=N*pK e h:=by
 unfold pK mulS mulV;exact Pn
theorem eZ5(a:0<N) e h:pX (mulS N e) (N*h)=N*(N*pX e h):=by
 grind [dU4,eZ8,pX,mulS,mulV]
theorem dK4(a:0<N) e h:mZ (mulS N e) (N*h)↔mZ e h:=by
 unfold mZ mulS mulV;simp_all
def pZ(f:Sg)(h:Int):Vc:=(pX f h,pN f*h)
theorem eQ0(a:mZ f h):ray (mulS (pN f) g) (pZ f h)↔aft h f g:=by
 have b:=(aO5 a).1;simp_all [aQ3,dK4,dU4,eZ5,Int.mul_assoc,le_mul,pZ,aft]
def pZ_on(a:mZ f h):Onp (pN f) (pK f h) (mulV (pN f) f.1) (mulV (pN f) f.2) (pZ f h):=by
 let⟨b,c,d,e⟩:=aO5 a;refine⟨b,c,d,?_,?_⟩;unfold mulV pZ pX;grind;grind [Int.mul_sub,Int.mul_assoc,Int.mul_comm,mulV,pZ,pN]
def dC1(a:mZ f h) v n(b:∀g∈dD v n,Sep f.1 f.2 g):
 xr (dD v n) (λg=>decB (aft h f g))=par f.2 (dD v n):=by
 rw[<-cE3 (aO5 a).1 v n (pZ_on a) b];grind [cW9,jF,dZ6,eQ0,par]
def dJ0{m k y z:Int}(c:0<=m)(b:0<=k)(a:0<m+k)(h:m*y+k*z=0):¬(0<y/\0<z)/\¬(y<0/\z<0):=by
 have d:=sgn m y;have e:=sgn k z;grind
def fB7(e:bI f)(j:bI g)(c:mZ f h)(i:mZ g h)(F:dG f g=0):pN g*pX f h≠pN f*pX g h:=by
 intro E;let⟨w,x,Q,R⟩:=aO5 c;let⟨y,z,S,T⟩:=aO5 i
 have l:f.1≠f.2:=by
  intro q;unfold mZ at c;rw[q]at c;omega
 have m:g.1≠g.2:=by
  intro q;unfold mZ at i;rw[q]at i;omega
 have G:=rC e j l F;unfold pX at E
 have D:(pN g-pK g h)*X (dif f.2 f.1) (dif g.1 f.1)+pK g h*X (dif f.2 f.1) (dif g.2 f.1)=0:=by
  have:pN f*((pN g-pK g h)*X (dif f.2 f.1) (dif g.1 f.1)+pK g h*X (dif f.2 f.1) (dif g.2 f.1))=0:=by
   unfold X dif;simp only;grind
  grind [Int.mul_eq_zero]
 have C:(pN f-pK f h)*X (dif g.2 g.1) (dif f.1 g.1)+pK f h*X (dif g.2 g.1) (dif f.2 g.1)=0:=by
  have:pN g*((pN f-pK f h)*X (dif g.2 g.1) (dif f.1 g.1)+pK f h*X (dif g.2 g.1) (dif f.2 g.1))=0:=by
   unfold X dif;simp only;grind
  grind [Int.mul_eq_zero]
 have r:=dJ0 Aa z Aa D;have s:=dJ0 Aa x Aa C;rcases G with q|q|q|q|⟨H,I,J,K⟩;exact r.1 q;exact r.2 q;exact s.1 q;exact s.2 q
 have key:∃p,uH f g p/\Com f g p:=by
  have a:∀p:Vc,X (dif f.2 f.1) (dif p f.1)=0->min f.1.2 f.2.2<=p.2->p.2<=h->eX f p:=λp hx A B=>by
   rw[gZ e];refine⟨(nO (d:=pN f) (k:=pK f p.2) (u:=f.1) (v:=f.2) (p:=p) w ?_ ?_ l).2 ?_,hx⟩;unfold mZ at c;exact Qy;unfold mZ at c;unfold pN pK;split<;>grind;unfold mZ at c;unfold pN pK;split<;>omega
  have b:∀p:Vc,X (dif g.2 g.1) (dif p g.1)=0->min g.1.2 g.2.2<=p.2->p.2<=h->eX g p:=λp hx A B=>by
   rw[gZ j];refine⟨(nO (d:=pN g) (k:=pK g p.2) (u:=g.1) (v:=g.2) (p:=p) y ?_ ?_ m).2 ?_,hx⟩;unfold mZ at i;exact Qy;unfold mZ at i;unfold pN pK;split<;>grind;unfold mZ at i;unfold pN pK;split<;>omega
  have L:X (dif f.2 f.1) (dif f.1 f.1)=0:=I4;have M:X (dif f.2 f.1) (dif f.2 f.1)=0:=F6;have N:X (dif g.2 g.1) (dif g.1 g.1)=0:=I4;have O:X (dif g.2 g.1) (dif g.2 g.1)=0:=F6;have n:=c;have o:=i;unfold mZ at n o;by_cases P:min g.1.2 g.2.2<=min f.1.2 f.2.2;by_cases t:f.1.2<f.2.2;exact⟨f.1, .inl rfl,a _ L Aa Aa,b _ J Aa Aa⟩;exact⟨f.2, .inr (.inl rfl),a _ M Aa Aa,b _ K Aa Aa⟩;by_cases t:g.1.2<g.2.2;exact⟨g.1, .inr (.inr (.inl rfl)),a _ H Aa Aa,b _ N Aa Aa⟩;exact⟨g.2, .inr (.inr (.inr rfl)),a _ I Aa Aa,b _ O Aa Aa⟩
 have:=(tells e j).touch.1 key;omega
def bool_split a b x y(h:a=true->b=true->(x^^y)=true):(a&&b)=((a&& (b&&x))^^(b&& (a&&y))):=by
 grind
def aH5{a b c n m k:Int}(j:0<n)(f:0<m)(e:n*a<b)(i:m*b<n*c):m*a<c:=by
 have g:=Int.mul_lt_mul_of_pos_left e f;have d:n*(m*a)<n*c:=by rw[Int.mul_left_comm];omega
 exact Int.lt_of_mul_lt_mul_left d Aa
def cT7(l:∀g∈dD b a,bI g)(j:∀f∈dD vh nh,bI f)
 (t:∀f∈dD vh nh,∀g∈dD b a,dG f g=0/\dG g f=0)(u:∀f∈dD vh nh,f.1≠f.2)(v:∀g∈dD b a,g.1≠g.2)
 (r:∀f∈dD vh nh,par f.2 (dD b a)=true)(o:∀g∈dD b a,par g.2 (dD vh nh)=false)
 (w:par p (dD vh nh)=true):par p (dD b a)=true:=by
 have B:∀f∈dD vh nh,decB (ray f p)=true->xr (dD b a) (λg=>decB (ray g p)&&decB (aft p.2 f g))=true:=λf c i=>by
  rw[dH,aQ3]at i;rw[<-r f c,<-dC1 i.1 b a (λg d=>rC (j f c) (l g d) (u f c) (t f c g d).1)];refine jF (λg d=>?_);by_cases e:aft p.2 f g;have:ray g p:=aQ3.2 ⟨e.1,aH5 (k:=0) (aO5 i.1).1 (aO5 e.1).1 i.2 e.2⟩;rw[dH.2 e,dH.2 this];rfl;rw[dW.2 e,Bool.and_false]
 have C:∀g∈dD b a,decB (ray g p)=true->xr (dD vh nh) (λf=>decB (ray f p)&&decB (aft p.2 g f))=false:=λg d i=>by
  rw[dH,aQ3]at i;rw[<-o g d,<-dC1 i.1 vh nh (λf c=>rC (l g d) (j f c) (v g d) (t f c g d).2)];refine jF (λf c=>?_);by_cases e:aft p.2 g f;have:ray f p:=aQ3.2 ⟨e.1,aH5 (k:=0) (aO5 i.1).1 (aO5 e.1).1 i.2 e.2⟩;rw[dH.2 e,dH.2 this];rfl;rw[dW.2 e,Bool.and_false]
 have A:∀f∈dD vh nh,∀g∈dD b a,decB (ray f p)=true->decB (ray g p)=true->(decB (aft p.2 f g)^^decB (aft p.2 g f))=true:=λf c g d m n=>by
  rw[dH,aQ3]at m n;have z:=fB7 (j f c) (l g d) m.1 n.1 (t f c g d).1;by_cases s:pN g*pX f p.2<pN f*pX g p.2;grind [dH,dW,aft];rw[dW.2 (show¬aft p.2 f g from λq=>s q.2),dH.2 (show aft p.2 g f from⟨m.1,Aa⟩)];rfl
 have m:xr (dD vh nh) (λf=>xr (dD b a) (λg=>decB (ray f p)&&decB (ray g p)))=par p (dD b a):=by
  rw[jF (g:=λf=>decB (ray f p)&&par p (dD b a)) (λf _=>bW6 _ _ _)];rw[jF (g:=λf=>par p (dD b a)&&decB (ray f p)) (λf _=>Bool.and_comm _ _),bW6];show(par p (dD b a)&&par p (dD vh nh))=_;rw[w,Bool.and_true]
 have n:xr (dD vh nh) (λf=>xr (dD b a) (λg=>decB (ray f p)&&decB (ray g p)))=
  (xr (dD vh nh) (λf=>xr (dD b a) (λg=>decB (ray f p)&& (decB (ray g p)&&decB (aft p.2 f g))))^^xr (dD vh nh) (λf=>xr (dD b a) (λg=>decB (ray g p)&& (decB (ray f p)&&decB (aft p.2 g f))))):=by
  rw[<-cA9];refine jF (λf c=>?_);rw[<-cA9];exact jF (λg d=>bool_split _ _ _ _ (A f c g d))
 have x:xr (dD vh nh) (λf=>xr (dD b a) (λg=>decB (ray f p)&& (decB (ray g p)&&decB (aft p.2 f g))))=true:=by
  rw[jF (g:=λf=>decB (ray f p)) (λf c=>?_)];exact w;simp_all [bW6]
 have y:xr (dD vh nh) (λf=>xr (dD b a) (λg=>decB (ray g p)&& (decB (ray f p)&&decB (aft p.2 g f))))=false:=by
  rw[dI9,<-aD0 (dD b a)];refine jF (λg d=>?_);simp_all [bW6]
 rw[x,y]at n;rw[<-m,n];rfl
end Go.Proofs.Led
