/-
  Rectangles: the sectors at the boundary.
-/
import Derived.Test.YtkhhdojgbkophaaGreatB45
import Derived.Test.YtkhhdojgbkophaaGreatB27
set_option linter.unusedVariables false
set_option linter.unusedSimpArgs false
namespace Go.Proofs.Led
open Go Go.Proofs Go.Ab
set_option maxRecDepth 100000
set_option maxHeartbeats 8000000
def sc(k:Int)(u:Vc):Vc:=(k*u.1,k*u.2)
def Un(u:Vc):Prop:= -1<=u.1/\u.1<=1/\-1<=u.2/\u.2<=1
def Ln(k:Int):Prop:=1<=k/\k<=1900
theorem dH0{k n:Int}(hk:Ln k)(hn: -1<=n/\n<=1):Sm (k*n):=by
 unfold Ln at hk
 have h:n= -1\/n=0\/n=1:=by omega
 rcases h with rfl|rfl|rfl<;>(unfold Sm;omega)
theorem aV6{n:Int}(h: -1<=n/\n<=1):Sm n:=by unfold Sm;omega
theorem mul4(p q r s:Int):p*q*(r*s)=p*r*(q*s):=by ac_rfl
theorem cI9{k l:Int}{u v:Vc}(hk:Ln k)(hl:Ln l)(hu:Un u)(hv:Un v):bZ (sc k u) (sc l v)=(k*l)*bZ u v/\vdot (sc k u) (sc l v)=(k*l)*vdot u v/\0<k*l:=by
 obtain⟨u1,u2,u3,u4⟩:=hu
 obtain⟨v1,v2,v3,v4⟩:=hv
 have a1:Sm (sc k u).1:=dH0 hk ⟨u1,u2⟩
 have a2:Sm (sc k u).2:=dH0 hk ⟨u3,u4⟩
 have a3:Sm (sc l v).1:=dH0 hl ⟨v1,v2⟩
 have a4:Sm (sc l v).2:=dH0 hl ⟨v3,v4⟩
 rw[iK a1 a2 a3 a4,bY4 a1 a2 a3 a4,iK (aV6 ⟨u1,u2⟩) (aV6 ⟨u3,u4⟩) (aV6 ⟨v1,v2⟩) (aV6 ⟨v3,v4⟩),bY4 (aV6 ⟨u1,u2⟩) (aV6 ⟨u3,u4⟩) (aV6 ⟨v1,v2⟩) (aV6 ⟨v3,v4⟩)]
 unfold Ln at hk hl
 refine⟨?_,?_,Int.mul_pos (by omega) (by omega)⟩
 ·show k*u.1*(l*v.2)-k*u.2*(l*v.1)=_
  rw[Int.mul_sub,mul4 k u.1,mul4 k u.2]
 ·show k*u.1*(l*v.1)+k*u.2*(l*v.2)=_
  rw[Int.mul_add,mul4 k u.1,mul4 k u.2]
theorem bA0{k l:Int}{u v:Vc}(hk:Ln k)(hl:Ln l)(hu:Un u)(hv:Un v):jS (sc k u) (sc l v)=jS u v:=by
 obtain⟨e1,e2,e3⟩:=cI9 hk hl hu hv
 unfold jS
 rw[e1,e2]
 obtain⟨m1,m2,m3⟩:=pG (k:=k*l) (n:=bZ u v) e3
 obtain⟨n1,n2,n3⟩:=pG (k:=k*l) (n:=vdot u v) e3
 simp only[m2,m3,n3]
theorem dU9{k l:Int}{u v:Vc}(hk:Ln k)(hl:Ln l)(hu:Un u)(hv:Un v):0<bZ (sc k u) (sc l v)↔0<bZ u v:=by
 obtain⟨e1,e2,e3⟩:=cI9 hk hl hu hv
 rw[e1]
 exact(pG e3).2.1
theorem dY1{k l m n:Int}{u v x y:Vc}(hk:Ln k)(hl:Ln l)(hm:Ln m)(hn:Ln n)(hu:Un u)(hv:Un v)(hx:Un x)(hy:Un y):jH (sc k u,sc l v) (sc m x,sc n y)↔jH (u,v) (x,y):=by
 unfold jH oG
 simp only
 rw[bA0 hk hm hu hx,bA0 hk hl hu hv,bA0 hm hk hx hu,bA0 hm hn hx hy,dU9 hm hl hx hv,dU9 hk hn hu hy]
theorem av0(a b c d:Int)(p:Vc):dJ 0 (rr a b c d) p 0=open Classical in if(a,b)=p then some (vsub (c,b) p,vsub (a,d) p)else if(c,b)≠p/\eX ((a,b),(c,b)) p then some (vsub (c,b) p,vsub (a,b) p)else none:=by
 unfold dJ arN arL
 rw[eU3,eV2]
 rfl
theorem av1(a b c d:Int)(p:Vc):dJ 0 (rr a b c d) p 1=open Classical in if(c,b)=p then some (vsub (c,d) p,vsub (a,b) p)else if(c,d)≠p/\eX ((c,b),(c,d)) p then some (vsub (c,d) p,vsub (c,b) p)else none:=by
 unfold dJ arN arL
 rw[eV9,eV8]
 rfl
theorem av2(a b c d:Int)(p:Vc):dJ 0 (rr a b c d) p 2=open Classical in if(c,d)=p then some (vsub (a,d) p,vsub (c,b) p)else if(a,d)≠p/\eX ((c,d),(a,d)) p then some (vsub (a,d) p,vsub (c,d) p)else none:=by
 unfold dJ arN arL
 rw[eU5,eU8]
 rfl
theorem av3(a b c d:Int)(p:Vc):dJ 0 (rr a b c d) p 3=open Classical in if(a,d)=p then some (vsub (a,b) p,vsub (c,d) p)else if(a,b)≠p/\eX ((a,d),(a,b)) p then some (vsub (a,b) p,vsub (a,d) p)else none:=by
 unfold dJ arN arL
 rw[eV3,eV0]
 rfl
theorem dS1(a b c d:Int)(p:Vc):jE (rS a b c d) p=(((dJ 0 (rr a b c d) p 0).or ((dJ 0 (rr a b c d) p 1).or ((dJ 0 (rr a b c d) p 2).or (dJ 0 (rr a b c d) p 3)))).getD ((0,0),(0,0))):=by
 have e:qY 0 (rr a b c d) p=(dJ 0 (rr a b c d) p 0).or ((dJ 0 (rr a b c d) p 1).or ((dJ 0 (rr a b c d) p 2).or (dJ 0 (rr a b c d) p 3))):=by
  unfold qY
  have:List.range (rr a b c d).length=[0,1,2,3] :=by kernel_rfl
  rw[this]
  simp only[List.findSome?]
  cases dJ 0 (rr a b c d) p 0<;>cases dJ 0 (rr a b c d) p 1<;>cases dJ 0 (rr a b c d) p 2<;>cases dJ 0 (rr a b c d) p 3<;>rfl
 show(Option.or (qY 0 (rr a b c d) p) none).getD _=_
 rw[e,Option.or_none]
def Side(a b c d:Int)(p u v:Vc):Prop:=
 (p.1=a/\p.2=b/\u=(1,0)/\v=(0,1))\/(p.2=b/\a<p.1/\p.1<c/\u=(1,0)/\v=(-1,0))\/(p.1=c/\p.2=b/\u=(0,1)/\v=(-1,0))\/(p.1=c/\b<p.2/\p.2<d/\u=(0,1)/\v=(0,-1))\/
 (p.1=c/\p.2=d/\u=(-1,0)/\v=(0,-1))\/(p.2=d/\a<p.1/\p.1<c/\u=(-1,0)/\v=(1,0))\/(p.1=a/\p.2=d/\u=(0,-1)/\v=(1,0))\/(p.1=a/\b<p.2/\p.2<d/\u=(0,-1)/\v=(0,1))
theorem bY0{v p:Vc}(h1:On19 v)(h2:On19 p):vsub v p=(v.1-p.1,v.2-p.2):=by
 unfold On19 at*
 exact kN ⟨by omega,by omega⟩ ⟨by omega,by omega⟩
theorem bR3{a b c d:Int}(h:RB a b c d){p:Vc}(hp:On19 p)(hat:wP a b c d p)(hn:¬wR a b c d p):
 ∃k l u v,Ln k/\Ln l/\jE (rS a b c d) p=(sc k u,sc l v)/\Side a b c d p u v:=by
 obtain⟨q1,q2,q3,q4⟩:=bL1 h
 have s0:=dF0 q1 q2 hp
 have s1:=dH4 q2 q3 hp
 have s2:=dF0 q3 q4 hp
 have s3:=dH4 q4 q1 hp
 have t1:=bY0 q1 hp
 have t2:=bY0 q2 hp
 have t3:=bY0 q3 hp
 have t4:=bY0 q4 hp
 obtain⟨x0,x1,x2,y0,y1,y2⟩:=h
 obtain⟨p1,p2⟩:=p
 unfold wP at hat
 unfold wR at hn
 simp only at hat hn s0 s1 s2 s3 t1 t2 t3 t4
 have hc:(p1=a/\p2=b)\/(p2=b/\a<p1/\p1<c)\/(p1=c/\p2=b)\/(p1=c/\b<p2/\p2<d)\/(p1=c/\p2=d)\/(p2=d/\a<p1/\p1<c)\/(p1=a/\p2=d)\/(p1=a/\b<p2/\p2<d):=by omega
 rw[dS1]
 have ne:∀ {x y:Int},(x≠p1\/y≠p2)->¬((x,y):Vc)=(p1,p2):=fun hh e=>by
  have e1:=congrArg Prod.fst e
  have e2:=congrArg Prod.snd e
  simp only at e1 e2
  omega
 rcases hc with⟨g1,g2⟩|⟨g1,g2,g3⟩|⟨g1,g2⟩|⟨g1,g2,g3⟩|⟨g1,g2⟩|⟨g1,g2,g3⟩|⟨g1,g2⟩|⟨g1,g2,g3⟩
 ·refine⟨c-a,d-b,(1,0),(0,1),⟨by omega,by omega⟩,⟨by omega,by omega⟩,?_, .inl ⟨g1,g2,rfl,rfl⟩⟩
  rw[av0,if_pos (by rw[g1,g2]),t2,t4]
  show(((c-p1,b-p2),(a-p1,d-p2)):Sg)=_
  unfold sc
  simp only[g1,g2,Int.mul_zero,Int.mul_one,Int.sub_self]
 ·refine⟨c-p1,p1-a,(1,0),(-1,0),⟨by omega,by omega⟩,⟨by omega,by omega⟩,?_, .inr (.inl ⟨g1,g2,g3,rfl,rfl⟩)⟩
  rw[av0,if_neg (ne (by omega)),if_pos ⟨ne (by omega),s0.2 (by omega)⟩,t2,t1]
  show(((c-p1,b-p2),(a-p1,b-p2)):Sg)=_
  unfold sc
  simp only[g1,Int.mul_zero,Int.mul_one,Int.sub_self,Int.mul_neg]
  congr 2;omega
 ·refine⟨d-b,c-a,(0,1),(-1,0),⟨by omega,by omega⟩,⟨by omega,by omega⟩,?_, .inr (.inr (.inl ⟨g1,g2,rfl,rfl⟩))⟩
  rw[av0,if_neg (ne (by omega)),if_neg (fun hh=>hh.1 (by rw[g1,g2])),av1,if_pos (by rw[g1,g2]),t3,t1]
  show(((c-p1,d-p2),(a-p1,b-p2)):Sg)=_
  unfold sc
  simp only[g1,g2,Int.mul_zero,Int.mul_one,Int.sub_self,Int.mul_neg]
  congr 2;omega
 ·refine⟨d-p2,p2-b,(0,1),(0,-1),⟨by omega,by omega⟩,⟨by omega,by omega⟩,?_, .inr (.inr (.inr (.inl ⟨g1,g2,g3,rfl,rfl⟩)))⟩
  rw[av0,if_neg (ne (by omega)),if_neg (fun hh=>by have:=s0.1 hh.2;omega),av1,if_neg (ne (by omega)),if_pos ⟨ne (by omega),s1.2 (by omega)⟩,t3,t2]
  show(((c-p1,d-p2),(c-p1,b-p2)):Sg)=_
  unfold sc
  simp only[g1,Int.mul_zero,Int.mul_one,Int.sub_self,Int.mul_neg]
  congr 2;omega
 ·refine⟨c-a,d-b,(-1,0),(0,-1),⟨by omega,by omega⟩,⟨by omega,by omega⟩,?_, .inr (.inr (.inr (.inr (.inl ⟨g1,g2,rfl,rfl⟩))))⟩
  rw[av0,if_neg (ne (by omega)),if_neg (fun hh=>by have:=s0.1 hh.2;omega),av1,if_neg (ne (by omega)),if_neg (fun hh=>hh.1 (by rw[g1,g2])),av2,if_pos (by rw[g1,g2]),t4,t2]
  show(((a-p1,d-p2),(c-p1,b-p2)):Sg)=_
  unfold sc
  simp only[g1,g2,Int.mul_zero,Int.mul_one,Int.sub_self,Int.mul_neg]
  congr 2<;>omega
 ·refine⟨p1-a,c-p1,(-1,0),(1,0),⟨by omega,by omega⟩,⟨by omega,by omega⟩,?_, .inr (.inr (.inr (.inr (.inr (.inl ⟨g1,g2,g3,rfl,rfl⟩)))))⟩
  rw[av0,if_neg (ne (by omega)),if_neg (fun hh=>by have:=s0.1 hh.2;omega),av1,if_neg (ne (by omega)),if_neg (fun hh=>by have:=s1.1 hh.2;omega),av2,if_neg (ne (by omega)),if_pos ⟨ne (by omega),s2.2 (by omega)⟩,t4,t3]
  show(((a-p1,d-p2),(c-p1,d-p2)):Sg)=_
  unfold sc
  simp only[g1,Int.mul_zero,Int.mul_one,Int.sub_self,Int.mul_neg]
  congr 2;omega
 ·refine⟨d-b,c-a,(0,-1),(1,0),⟨by omega,by omega⟩,⟨by omega,by omega⟩,?_, .inr (.inr (.inr (.inr (.inr (.inr (.inl ⟨g1,g2,rfl,rfl⟩))))))⟩
  rw[av0,if_neg (ne (by omega)),if_neg (fun hh=>by have:=s0.1 hh.2;omega),av1,if_neg (ne (by omega)),if_neg (fun hh=>by have:=s1.1 hh.2;omega),av2,if_neg (ne (by omega)),if_neg (fun hh=>hh.1 (by rw[g1,g2])),av3,if_pos (by rw[g1,g2]),t1,t3]
  show(((a-p1,b-p2),(c-p1,d-p2)):Sg)=_
  unfold sc
  simp only[g1,g2,Int.mul_zero,Int.mul_one,Int.sub_self,Int.mul_neg]
  congr 2;omega
 ·refine⟨p2-b,d-p2,(0,-1),(0,1),⟨by omega,by omega⟩,⟨by omega,by omega⟩,?_, .inr (.inr (.inr (.inr (.inr (.inr (.inr ⟨g1,g2,g3,rfl,rfl⟩))))))⟩
  rw[av0,if_neg (ne (by omega)),if_neg (fun hh=>by have:=s0.1 hh.2;omega),av1,if_neg (ne (by omega)),if_neg (fun hh=>by have:=s1.1 hh.2;omega),av2,if_neg (ne (by omega)),if_neg (fun hh=>by have:=s2.1 hh.2;omega),av3,if_neg (ne (by omega)),if_pos ⟨ne (by omega),s3.2 (by omega)⟩,t1,t4]
  show(((a-p1,b-p2),(a-p1,d-p2)):Sg)=_
  unfold sc
  simp only[g1,Int.mul_zero,Int.mul_one,Int.sub_self,Int.mul_neg]
  congr 2;omega
theorem rZ{x1 x2 y x z1 z2:Int}(h1:On19 (x1,y))(h2:On19 (x2,y))(h3:On19 (x,z1))(h4:On19 (x,z2))(hn:¬(min x1 x2<x/\x<max x1 x2/\min z1 z2<y/\y<max z1 z2)):
 dG ((x1,y),(x2,y)) ((x,z1),(x,z2))≠2/\dG ((x,z1),(x,z2)) ((x1,y),(x2,y))≠2:=by
 have eD:=yC (s:=((x1,y),(x2,y))) (t:=((x,z1),(x,z2))) h1 h2 h3 h4
 have eA:=bW0 (s:=((x1,y),(x2,y))) (t:=((x,z1),(x,z2))) h1 h2 h3 h4
 have eB:=bT9 (s:=((x1,y),(x2,y))) (t:=((x,z1),(x,z2))) h1 h2 h3 h4
 have fD:=yC (s:=((x,z1),(x,z2))) (t:=((x1,y),(x2,y))) h3 h4 h1 h2
 have fA:=bW0 (s:=((x,z1),(x,z2))) (t:=((x1,y),(x2,y))) h3 h4 h1 h2
 have fB:=bT9 (s:=((x,z1),(x,z2))) (t:=((x1,y),(x2,y))) h3 h4 h1 h2
 unfold On19 at*
 simp only at*
 rw[show x-x=0 by omega,show y-y=0 by omega]at*
 simp only[Int.mul_zero,Int.zero_mul,Int.sub_zero,Int.zero_sub]at*
 have b:∀m n p q:Int,0<=m->m<=1900->0<=n->n<=1900->0<=p->p<=1900->0<=q->q<=1900->-100000000<=(m-n)*(p-q)/\(m-n)*(p-q)<=100000000:=fun m n p q _ _ _ _ _ _ _ _=>vG ⟨by omega,by omega⟩ ⟨by omega,by omega⟩
 have r1:=b x2 x1 z2 z1 (by omega) (by omega) (by omega) (by omega) (by omega) (by omega) (by omega) (by omega)
 have r2:=b x x1 z2 z1 (by omega) (by omega) (by omega) (by omega) (by omega) (by omega) (by omega) (by omega)
 have r3:=b z1 y x2 x1 (by omega) (by omega) (by omega) (by omega) (by omega) (by omega) (by omega) (by omega)
 have r4:=b z2 z1 x2 x1 (by omega) (by omega) (by omega) (by omega) (by omega) (by omega) (by omega) (by omega)
 have r5:=b y z1 x2 x1 (by omega) (by omega) (by omega) (by omega) (by omega) (by omega) (by omega) (by omega)
 have r6:=b x1 x z2 z1 (by omega) (by omega) (by omega) (by omega) (by omega) (by omega) (by omega) (by omega)
 have key:∀(k m n:Int),(0<k*m/\k*m<k*n->(0<k/\0<m/\m<n)\/(k<0/\m<0/\n<m)):=by
  rintro k m n ⟨g1,g2⟩
  rcases Int.lt_trichotomy k 0 with hk|hk|hk
  ·right
   obtain⟨m1,m2,m3⟩:=pG (k:= -k) (n:=m) (by omega)
   obtain⟨n1,n2,n3⟩:=pG (k:= -k) (n:=n-m) (by omega)
   rw[Int.neg_mul]at m3 n3
   rw[Int.mul_sub]at n3
   exact⟨hk,m3.1 (by omega),by have:=n3.1 (by omega);omega⟩
  ·subst hk
   simp at g1
  ·left
   obtain⟨m1,m2,m3⟩:=pG (k:=k) (n:=m) hk
   obtain⟨n1,n2,n3⟩:=pG (k:=k) (n:=n-m) hk
   rw[Int.mul_sub]at n2
   exact⟨hk,m2.1 g1,by have:=n2.1 (by omega);omega⟩
 have c1:(x2-x1)*(z2-z1)=(z2-z1)*(x2-x1):=Int.mul_comm _ _
 have c2:(x-x1)*(z2-z1)=(z2-z1)*(x-x1):=Int.mul_comm _ _
 have c3: -((z1-y)*(x2-x1))=(x2-x1)*(y-z1):=by rw[<-Int.neg_mul,Int.mul_comm];congr 1;omega
 have c5:(y-z1)*(x2-x1)=(x2-x1)*(y-z1):=Int.mul_comm _ _
 have c6: -((x1-x)*(z2-z1))=(z2-z1)*(x-x1):=by rw[<-Int.neg_mul,Int.mul_comm];congr 1;omega
 have c7:(x2-x1)*(z2-z1)=(x2-x1)*(z2-z1):=rfl
 constructor
 ·intro h
  by_cases hd:jC ((x1,y),(x2,y)) ((x,z1),(x,z2))=0
  ·exact aP6 hd h
  ·rcases cN5 hd h with⟨q1,q2,q3,q4,q5⟩|⟨q1,q2,q3,q4,q5⟩
   ·rw[eA]at q2 q3
    rw[eB]at q4 q5
    rw[eD]at q3 q5
    rw[c2]at q2 q3
    rw[c1]at q3
    rw[c3]at q4 q5
    have k1:=key _ _ _ ⟨q2,q3⟩
    have k2:=key _ _ _ ⟨q4,q5⟩
    omega
   ·rw[eA]at q2 q3
    rw[eB]at q4 q5
    rw[eD]at q3 q5
    rw[w_in (by omega)]at q2
    rw[w_in (by omega),w_in (by omega)]at q3
    rw[w_in (by omega)]at q4
    rw[w_in (by omega),w_in (by omega)]at q5
    have e2:0- (x-x1)*(z2-z1)=(z1-z2)*(x-x1):=by rw[Int.zero_sub,<-Int.mul_neg,Int.mul_comm];congr 1;omega
    have e3:0- (x2-x1)*(z2-z1)=(z1-z2)*(x2-x1):=by rw[Int.zero_sub,<-Int.mul_neg,Int.mul_comm];congr 1;omega
    have e4:0- -((z1-y)*(x2-x1))=(x1-x2)*(y-z1):=by
     rw[c3,Int.zero_sub,<-Int.neg_mul];congr 1;omega
    have e5:0- (x2-x1)*(z2-z1)=(x1-x2)*(z2-z1):=by rw[Int.zero_sub,<-Int.neg_mul];congr 1;omega
    rw[e2]at q2 q3
    rw[e3]at q3
    rw[e4]at q4 q5
    rw[e5]at q5
    have k1:=key _ _ _ ⟨q2,q3⟩
    have k2:=key _ _ _ ⟨q4,q5⟩
    omega
 ·intro h
  by_cases hd:jC ((x,z1),(x,z2)) ((x1,y),(x2,y))=0
  ·exact aP6 hd h
  ·rcases cN5 hd h with⟨q1,q2,q3,q4,q5⟩|⟨q1,q2,q3,q4,q5⟩
   ·rw[fA]at q2 q3
    rw[fB]at q4 q5
    rw[fD]at q3 q5
    have e2: -((y-z1)*(x2-x1))=(x1-x2)*(y-z1):=by rw[<-Int.mul_neg,Int.mul_comm];congr 1;omega
    have e3: -((z2-z1)*(x2-x1))=(x1-x2)*(z2-z1):=by rw[<-Int.mul_neg,Int.mul_comm];congr 1;omega
    have e4:(x1-x)*(z2-z1)=(z1-z2)*(x-x1):=by rw[Int.mul_comm,<-Int.neg_mul_neg];congr 1<;>omega
    have e5: -((z2-z1)*(x2-x1))=(z1-z2)*(x2-x1):=by rw[<-Int.neg_mul];congr 1;omega
    rw[e2]at q2 q3
    rw[e3]at q3
    rw[e4]at q4 q5
    rw[e5]at q5
    have k1:=key _ _ _ ⟨q2,q3⟩
    have k2:=key _ _ _ ⟨q4,q5⟩
    omega
   ·rw[fA]at q2 q3
    rw[fB]at q4 q5
    rw[fD]at q3 q5
    rw[w_in (by omega)]at q2
    rw[w_in (by omega),w_in (by omega)]at q3
    rw[w_in (by omega)]at q4
    rw[w_in (by omega),w_in (by omega)]at q5
    have e2:0- -((y-z1)*(x2-x1))=(x2-x1)*(y-z1):=by rw[c5];omega
    have e3:0- -((z2-z1)*(x2-x1))=(x2-x1)*(z2-z1):=by rw[Int.mul_comm (z2-z1)];omega
    have e4:0- (x1-x)*(z2-z1)=(z2-z1)*(x-x1):=by rw[Int.zero_sub,c6]
    have e5:0- -((z2-z1)*(x2-x1))=(z2-z1)*(x2-x1):=by omega
    rw[e2]at q2 q3
    rw[e3]at q3
    rw[e4]at q4 q5
    rw[e5]at q5
    have k1:=key _ _ _ ⟨q2,q3⟩
    have k2:=key _ _ _ ⟨q4,q5⟩
    omega
theorem aL8{x1 x2 y z1 z2 w:Int}(h1:On19 (x1,y))(h2:On19 (x2,y))(h3:On19 (z1,w))(h4:On19 (z2,w)):dG ((x1,y),(x2,y)) ((z1,w),(z2,w))≠2:=by
 refine aP6 ?_
 rw[yC h1 h2 h3 h4]
 simp only
 rw[show w-w=0 by omega,show y-y=0 by omega]
 simp
theorem aO7{x y1 y2 w z1 z2:Int}(h1:On19 (x,y1))(h2:On19 (x,y2))(h3:On19 (w,z1))(h4:On19 (w,z2)):dG ((x,y1),(x,y2)) ((w,z1),(w,z2))≠2:=by
 refine aP6 ?_
 rw[yC h1 h2 h3 h4]
 simp only
 rw[show w-w=0 by omega,show x-x=0 by omega]
 simp
structure Box2(a b c d x y z w:Int):Prop where
 o:RB a b c d
 i:RB x y z w
 h1:a<=x
 h2:z<=c
 h3:b<=y
 h4:w<=d
theorem eI8(a b c d:Int):aC0 (rS a b c d)=[((a,b),(c,b)),((c,b),(c,d)),((c,d),(a,d)),((a,d),(a,b))] :=by
 show List.flatMap bF [rr a b c d] =_
 simp[bD6]
theorem eD2(a b c d:Int):rV (rS a b c d)=[(a,b),(c,b),(c,d),(a,d)] :=by
 show List.flatten [rr a b c d] =_
 simp[rr]
theorem dY7{a b c d x y z w:Int}(h:Box2 a b c d x y z w):¬rJ (rS a b c d) (rS x y z w) [2] :=by
 rintro⟨s,hs,t,ht,hm⟩
 rw[eI8]at hs ht
 rw[List.mem_singleton]at hm
 obtain⟨o1,o2,o3,o4⟩:=bL1 h.o
 obtain⟨i1,i2,i3,i4⟩:=bL1 h.i
 obtain⟨⟨x0,x1,x2,y0,y1,y2⟩,⟨u0,u1,u2,v0,v1,v2⟩,g1,g2,g3,g4⟩:=h
 simp only[List.mem_cons,List.not_mem_nil,or_false]at hs ht
 rcases hs with rfl|rfl|rfl|rfl<;>rcases ht with rfl|rfl|rfl|rfl
 ·exact aL8 o1 o2 i1 i2 hm
 ·exact(rZ o1 o2 i2 i3 (by omega)).1 hm
 ·exact aL8 o1 o2 i3 i4 hm
 ·exact(rZ o1 o2 i4 i1 (by omega)).1 hm
 ·exact(rZ i1 i2 o2 o3 (by omega)).2 hm
 ·exact aO7 o2 o3 i2 i3 hm
 ·exact(rZ i3 i4 o2 o3 (by omega)).2 hm
 ·exact aO7 o2 o3 i4 i1 hm
 ·exact aL8 o3 o4 i1 i2 hm
 ·exact(rZ o3 o4 i2 i3 (by omega)).1 hm
 ·exact aL8 o3 o4 i3 i4 hm
 ·exact(rZ o3 o4 i4 i1 (by omega)).1 hm
 ·exact(rZ i1 i2 o4 o1 (by omega)).2 hm
 ·exact aO7 o4 o1 i2 i3 hm
 ·exact(rZ i3 i4 o4 o1 (by omega)).2 hm
 ·exact aO7 o4 o1 i4 i1 hm
theorem aZ2{a b c d:Int}(h:RB a b c d){p:Vc}(hp:p∈rV (rS a b c d)):On19 p/\(p.1=a\/p.1=c)/\(p.2=b\/p.2=d):=by
 rw[eD2]at hp
 obtain⟨o1,o2,o3,o4⟩:=bL1 h
 simp only[List.mem_cons,List.not_mem_nil,or_false]at hp
 rcases hp with rfl|rfl|rfl|rfl
 ·exact⟨o1, .inl rfl, .inl rfl⟩
 ·exact⟨o2, .inr rfl, .inl rfl⟩
 ·exact⟨o3, .inr rfl, .inr rfl⟩
 ·exact⟨o4, .inl rfl, .inr rfl⟩
theorem eA1{a b c d:Int}{p u v:Vc}(h:Side a b c d p u v):Un u/\Un v:=by
 unfold Side at h
 rcases h with h|h|h|h|h|h|h|h
 all_goals
  obtain⟨hu,hv⟩:u=_/\v=_:=by first|exact⟨h.2.2.1,h.2.2.2⟩|exact⟨h.2.2.2.1,h.2.2.2.2⟩
  subst hu hv
  exact⟨by unfold Un;decide,by unfold Un;decide⟩
theorem dA2{a b c d x y z w:Int}(h:Box2 a b c d x y z w){p u v u' v':Vc}(h1:Side a b c d p u v)(h2:Side x y z w p u' v'):¬jH (u',v') (v,u):=by
 obtain⟨⟨x0,x1,x2,y0,y1,y2⟩,⟨u0,u1,u2,v0,v1,v2⟩,g1,g2,g3,g4⟩:=h
 unfold Side at h1 h2
 rcases h1 with⟨a1,a2,rfl,rfl⟩|⟨a1,a2,a3,rfl,rfl⟩|⟨a1,a2,rfl,rfl⟩|⟨a1,a2,a3,rfl,rfl⟩|⟨a1,a2,rfl,rfl⟩|⟨a1,a2,a3,rfl,rfl⟩|⟨a1,a2,rfl,rfl⟩|⟨a1,a2,a3,rfl,rfl⟩<;>
  rcases h2 with⟨b1,b2,rfl,rfl⟩|⟨b1,b2,b3,rfl,rfl⟩|⟨b1,b2,rfl,rfl⟩|⟨b1,b2,b3,rfl,rfl⟩|⟨b1,b2,rfl,rfl⟩|⟨b1,b2,b3,rfl,rfl⟩|⟨b1,b2,rfl,rfl⟩|⟨b1,b2,b3,rfl,rfl⟩
 all_goals first
  |(exfalso;omega)
  |(unfold jH oG;decide+kernel)
theorem cF3{a b c d x y z w:Int}(h:Box2 a b c d x y z w):lI (rS a b c d) (rS x y z w):=by
 refine⟨bC0 h.o,bC0 h.i,dY7 h,?_,?_,?_⟩
 ·rintro⟨p,hp,hw⟩
  obtain⟨q1,q2,q3⟩:=aZ2 h.i hp
  have hh:=h
  obtain⟨⟨x0,x1,x2,y0,y1,y2⟩,⟨u0,u1,u2,v0,v1,v2⟩,g1,g2,g3,g4⟩:=h
  rcases aP7 hh.o q1 with⟨r1,r2⟩|⟨r1,r2,r3⟩|⟨r1,r2⟩
  ·rw[hw]at r2;cases r2
  ·rw[hw]at r3;cases r3
  ·exact r1 (by unfold wP;omega)
 ·rintro⟨p,hp,hw⟩
  obtain⟨q1,q2,q3⟩:=aZ2 h.o hp
  have hh:=h
  obtain⟨⟨x0,x1,x2,y0,y1,y2⟩,⟨u0,u1,u2,v0,v1,v2⟩,g1,g2,g3,g4⟩:=h
  rcases aP7 hh.i q1 with⟨r1,r2⟩|⟨r1,r2,r3⟩|⟨r1,r2⟩
  ·unfold wR at r1;omega
  ·rw[hw]at r3;cases r3
  ·rw[hw]at r2;cases r2
 ·intro p hp h1 h2
  have hon:On19 p:=by
   rcases List.mem_append.1 hp with hp|hp
   ·exact(aZ2 h.o hp).1
   ·exact(aZ2 h.i hp).1
  have w1:wP a b c d p/\¬wR a b c d p:=by
   rcases aP7 h.o hon with⟨r1,r2⟩|⟨r1,r2,r3⟩|⟨r1,r2⟩
   ·rw[h1]at r2;cases r2
   ·exact⟨r2,r1⟩
   ·rw[h1]at r2;cases r2
  have w2:wP x y z w p/\¬wR x y z w p:=by
   rcases aP7 h.i hon with⟨r1,r2⟩|⟨r1,r2,r3⟩|⟨r1,r2⟩
   ·rw[h2]at r2;cases r2
   ·exact⟨r2,r1⟩
   ·rw[h2]at r2;cases r2
  obtain⟨k,l,u,v,hk,hl,e1,s1⟩:=bR3 h.o hon w1.1 w1.2
  obtain⟨k',l',u',v',hk',hl',e2,s2⟩:=bR3 h.i hon w2.1 w2.2
  show¬jH (jE (rS x y z w) p) ((jE (rS a b c d) p).2,(jE (rS a b c d) p).1)
  rw[e1,e2]
  show¬jH (sc k' u',sc l' v') (sc l v,sc k u)
  obtain⟨n1,n2⟩:=eA1 s1
  obtain⟨n3,n4⟩:=eA1 s2
  rw[dY1 hk' hl' hl hk n3 n4 n2 n1]
  exact dA2 h s1 s2
end Go.Proofs.Led
namespace Go.Proofs.Led
open Go Go.Proofs Go.Ab
set_option maxRecDepth 100000
set_option maxHeartbeats 4000000
theorem eW8{s:jL}{b:Bx}{id:Int}(h:remE s b id=0):dB s/\nC id/\xH b/\dQ b.1/\dQ b.2:=by
 unfold remE at h
 split at h
 ·cases h
 ·rename_i h1
  split at h
  ·cases h
  ·rename_i h2
   exact⟨Classical.not_not.1 h1,Classical.not_not.1 h2⟩
theorem fA4{b:Bx}(h1:xH b)(h2:dQ b.1)(h3:dQ b.2):RB (b.1.1-b.1.1) (b.1.2-b.1.2) (b.2.1-b.1.1) (b.2.2-b.1.2):=by
 unfold xH dQ at*
 exact⟨by omega,by omega,by omega,by omega,by omega,by omega⟩
theorem cT4{s:jL}{b:Bx}{id:Int}(h:remE s b id=0):dB (remS s b id):=by
 obtain⟨v,hid,hw,o1,o2⟩:=eW8 h
 obtain⟨⟨_,_,n1,n2⟩,g1,g2,_,dl,_,_,dd⟩:=v
 have hrb:=fA4 hw o1 o2
 have hrc:jT b b.1=rS (b.1.1-b.1.1) (b.1.2-b.1.2) (b.2.1-b.1.1) (b.2.2-b.1.2):=cL4 hrb
 unfold remS
 rw[if_pos h]
 refine⟨⟨hid.1,hid.2,n1,n2⟩,g1,g2,?_,Nat.le_trans (yK b s.defects) dl,?_,?_,fun d hd=>?_⟩
 ·show jV (jT b b.1)
  rw[hrc];exact bU1 hrb
 ·show dQ (boxS (jT b b.1)).1.1
  rw[hrc,eD8 hrb]
  obtain⟨x0,x1,x2,y0,y1,y2⟩:=hrb
  unfold dQ
  simp only
  omega
 ·show dQ (boxS (jT b b.1)).1.2
  rw[hrc,eD8 hrb]
  obtain⟨x0,x1,x2,y0,y1,y2⟩:=hrb
  unfold dQ
  simp only
  omega
 ·show qQ (jT b b.1) d
  obtain⟨q,hq,hd⟩:=List.mem_flatMap.1 hd
  unfold aK2 at hd
  split at hd
  ·rename_i hc
   rw[List.mem_singleton]at hd
   generalize hcb:nV (boxS q).1 b=cb at*
   have hb1:b.1.1<=cb.1.1/\b.1.2<=cb.1.2/\cb.2.1<=b.2.1/\cb.2.2<=b.2.2:=by
    rw[<-hcb]
    unfold nV
    simp only
    omega
   unfold xH at hc
   unfold dQ at o1 o2
   have hrb2:RB (cb.1.1-b.1.1) (cb.1.2-b.1.2) (cb.2.1-b.1.1) (cb.2.2-b.1.2):=⟨by omega,by omega,by omega,by omega,by omega,by omega⟩
   have hrc2:jT cb b.1=rS (cb.1.1-b.1.1) (cb.1.2-b.1.2) (cb.2.1-b.1.1) (cb.2.2-b.1.2):=cL4 hrb2
   have hin:=cF3 ⟨hrb,hrb2,by omega,by omega,by omega,by omega⟩
   rw[hd,hrc,hrc2]
   exact⟨bU1 hrb2,if_pos ⟨hin.1,hin.2.1⟩,hin⟩
  ·cases hd
theorem bE3{len:Int}:∀ {l:List Iv} {e e':Int},sU len e l->e'<=e->sU len e' l
 | [],_,_,_,_=>trivial
 |d::l,e,e',h,he=>⟨by have:=h.1;omega,h.2.1,h.2.2.1,h.2.2.2⟩
theorem cK8{len:Int}{r:Rest}(h0:0<=r.lo)(h1:r.lo<r.hi)(h2:r.hi<=len)(h3:len<=2000):∀ {l:List Iv} {e:Int},0<=e->sU len e l->sU (r.hi-r.lo) (max e r.lo-r.lo) (kH r l)
 | [],_,_,_=>trivial
 |d::l,e,he,h=>by
  obtain⟨a1,a2,a3,a4⟩:=h
  have ih:=cK8 h0 h1 h2 h3 (l:=l) (e:=d.2) (by omega) a4
  have e1:kH r (d::l)=aH0 r d++kH r l:=by unfold kH;rw[List.flatMap_cons]
  rw[e1]
  unfold aH0
  split
  ·rename_i hc
   rw[w_in (by omega),w_in (by omega)]
   exact⟨by simp only;omega,by simp only;omega,by simp only;omega,bE3 ih (by simp only;omega)⟩
  ·exact bE3 ih (by omega)
def stOk(x:aN):Prop:=(x.isBar=true->fM x.bar/\x.sheet=dN)/\(x.isBar=false->dB x.sheet/\x.bar=bar0)
theorem dB6{m:aN}{r:Rest}(hm:stOk m)(hid:nC r.id)(h:iG m r=0):stOk (dZ m r)/\(dZ m r).isBar=m.isBar/\(dZ m r).program=aI/\(dZ m r).sheet.grade=m.sheet.grade/\(dZ m r).sheet.heat=m.sheet.heat/\(dZ m r).bar.grade=m.bar.grade/\(dZ m r).bar.heat=m.bar.heat:=by
 unfold dZ
 cases hb:m.isBar with
 |false=>
  rw[if_pos rfl]
  obtain⟨v,hbar⟩:=hm.2 hb
  unfold iG at h
  rw[if_pos hb]at h
  split at h
  ·cases h
  ·rename_i h1
   rw[if_neg h1]
   have hv:=cT4 h
   have e:remS m.sheet r.box r.id=⟨r.id,m.sheet.grade,m.sheet.heat,m.sheet.grain,jT r.box r.box.1,kJ r.box m.sheet.defects⟩:=by unfold remS;rw[if_pos h]
   refine⟨⟨fun q=>(by cases q),fun _=>⟨hv,rfl⟩⟩,rfl,rfl,?_,?_,?_,?_⟩
   ·show(remS m.sheet r.box r.id).grade=_
    rw[e]
   ·show(remS m.sheet r.box r.id).heat=_
    rw[e]
   ·show bar0.grade=_
    rw[hbar]
   ·show bar0.heat=_
    rw[hbar]
 |true=>
  rw[if_neg (by decide),if_pos h]
  obtain⟨⟨⟨_,_,n1,n2⟩,l1,l2,dl,dk⟩,hsh⟩:=hm.1 hb
  unfold iG at h
  rw[if_neg (by rw[hb];decide)]at h
  split at h
  ·cases h
  ·split at h
   ·cases h
   ·rename_i h2
    have hW:W (r.hi-r.lo)=r.hi-r.lo:=w_in (by omega)
    refine⟨⟨fun _=>⟨⟨⟨hid.1,hid.2,n1,n2⟩,?_,?_,Nat.le_trans (aG5 r _) dl,?_⟩,rfl⟩,fun q=>(by cases q)⟩,rfl,rfl,?_,?_,rfl,rfl⟩
    ·show 1<=W (r.hi-r.lo)
     rw[hW];omega
    ·show W (r.hi-r.lo)<=2000
     rw[hW];omega
    ·show sU (W (r.hi-r.lo)) 0 (kH r m.bar.defects)
     rw[hW]
     have:=cK8 (r:=r) (by omega) (by omega) (by omega) l2 (Int.le_refl 0) dk
     rw[show max 0 r.lo-r.lo=0 by omega]at this
     exact this
    ·show dN.grade=_
     rw[hsh]
    ·show dN.heat=_
     rw[hsh]
def Vs(s:aJ):Prop:=∀x∈s.stocks,stOk x
theorem vs0:Vs inv0:=fun x h=>by cases h
theorem dQ6{m:aN}{p:ByteArray}(h:stOk m):stOk (prog m p):=h
theorem aE5{α:Type}{key:α->Int}{y:α}:∀ {xs l:List α},y∈xs.foldl (putK key) l↔y∈l\/y∈xs
 | [],l=>by simp
 |x::xs,l=>by
  rw[List.foldl_cons,aE5,show(y∈putK key l x↔y=x\/y∈l)from fH,List.mem_cons]
  constructor
  ·rintro((h|h)|h)
   ·exact .inr (.inl h)
   ·exact .inl h
   ·exact .inr (.inr h)
  ·rintro(h|h|h)
   ·exact .inl (.inr h)
   ·exact .inl (.inl h)
   ·exact .inr h
theorem eP3{s s':aJ}{e:Event}(hv:Vs s)(hs:Step s e s'):Vs s':=by
 cases hs with
 |recv x hx hn=>
  intro y hy
  rcases fH.1 hy with rfl|hy
  ·rcases hx with⟨_,rfl,h⟩|⟨_,rfl,h⟩
   ·exact⟨fun q=>(by cases q),fun _=>⟨h,rfl⟩⟩
   ·exact⟨fun _=>⟨h,rfl⟩,fun q=>(by cases q)⟩
  ·exact hv y hy
 |setK k m p hk hm hid=>
  intro y hy
  rcases mem_set hy with rfl|hy
  ·exact dQ6 (hv m (fC hm))
  ·exact hv y hy
 |disc k m hk hm hid=>exact fun y hy=>hv y ((kM _ _).subset hy)
 |setP k m st o hk hm hst hid=>exact hv
 |cut k m hk hf hfr hm hid hp hr hl=>
  intro y hy
  rw[aF7]at hy
  rcases aE5.1 hy with hy|hy
  ·exact hv y ((kM _ _).subset hy)
  ·obtain⟨r,h1,rfl,h3⟩:=yU hr hy
   exact(dB6 (hv m (fC hm)) (hf.2.1 r h1).1 h3).1
def Later(q p:Piece):Prop:=p.id=q.id/\(p=q\/(q.status=1/\p={q with status:=p.status,order:=p.order}))
theorem bN9{α:Type}{l:List α}{k:Nat}{m x q:α}(hm:l[k]? =some m)(hq:q∈l)(hne:q≠m):q∈l.set k x:=by
 obtain⟨i,hi⟩:=List.mem_iff_getElem?.1 hq
 refine List.mem_iff_getElem?.2 ⟨i,?_⟩
 rw[List.getElem?_set]
 split
 ·rename_i h
  subst h
  rw[hm]at hi
  exact absurd (Option.some.inj hi).symm hne
 ·exact hi
theorem cB8{α:Type}{l:List α}{k:Nat}{m x:α}(hm:l[k]? =some m):x∈l.set k x:=by
 obtain⟨hk,_⟩:=List.getElem?_eq_some_iff.1 hm
 exact List.mem_iff_getElem?.2 ⟨k,by rw[List.getElem?_set];simp[hk]⟩
theorem dS8{s s':aJ}{e:Event}(hs:Step s e s'):∀q∈s.pieces,∃p∈s'.pieces,Later q p:=by
 intro q hq
 cases hs with
 |recv x hx hn=>exact⟨q,hq,rfl, .inl rfl⟩
 |setK k m p hk hm hid=>exact⟨q,hq,rfl, .inl rfl⟩
 |disc k m hk hm hid=>exact⟨q,hq,rfl, .inl rfl⟩
 |setP k m st o hk hm hst hid=>
  by_cases h:q=m
  ·refine⟨marked m st o,cB8 hm,?_⟩
   rw[h]
   exact⟨rfl, .inr ⟨hst,rfl⟩⟩
  ·exact⟨q,bN9 hm hq h,rfl, .inl rfl⟩
 |cut k m hk hf hfr hm hid hp hr hl=>
  refine⟨q,?_,rfl, .inl rfl⟩
  rw[aG4]
  exact aE5.2 (.inl hq)
theorem dZ1{s s':aJ}{e:Event}(hs:Step s e s')(hv:Vs s)(hk:e.kind=5):∃m∈s.stocks,sid m=e.id/\(∀c∈e.cuts,fZ e m c∈s'.pieces)/\
 ∀r∈e.rests,dZ m r∈s'.stocks/\sid (dZ m r)=r.id/\(dZ m r).isBar=m.isBar/\(dZ m r).program=aI/\(dZ m r).sheet.grade=m.sheet.grade/\(dZ m r).sheet.heat=m.sheet.heat/\(dZ m r).bar.grade=m.bar.grade/\(dZ m r).bar.heat=m.bar.heat:=by
 cases hs with
 |recv x hx hn=>rcases hx with⟨h,_⟩|⟨h,_⟩<;>omega
 |setK k m p hk hm hid=>omega
 |disc k m hk hm hid=>omega
 |setP k m st o hk hm hst hid=>omega
 |cut k m hk hf hfr hm hid hp hr hl=>
  refine⟨m,fC hm,hid,fun c hc=>?_,fun r hr'=>⟨?_,cL1 (tZ hr r hr'),(dB6 (hv m (fC hm)) (hf.2.1 r hr').1 (tZ hr r hr')).2⟩⟩
  ·rw[aG4]
   exact aE5.2 (.inr (List.mem_map_of_mem hc))
  ·rw[aF7]
   refine aE5.2 (.inr ?_)
   rw[mV hr]
   exact List.mem_map_of_mem hr'
theorem bT1(a:ByteArray):aI++a=a:=by
 apply ByteArray.ext
 show(aI++a).data=a.data
 rw[ByteArray.data_append]
 simp
theorem bR5(a:ByteArray):a++aI=a:=by
 apply ByteArray.ext
 show(a++aI).data=a.data
 rw[ByteArray.data_append]
 simp
theorem eH5{e:Event}{m:aN}{c:Made}(h:stOk m):(fZ e m c).grade=m.sheet.grade++m.bar.grade/\(fZ e m c).heat=m.sheet.heat++m.bar.heat:=by
 unfold fZ
 cases hb:m.isBar with
 |true=>
  obtain⟨_,hs⟩:=h.1 hb
  simp only[if_true]
  rw[hs]
  exact⟨(bT1 _).symm,(bT1 _).symm⟩
 |false=>
  obtain⟨_,hs⟩:=h.2 hb
  simp only[Bool.false_eq_true,if_false]
  rw[hs]
  exact⟨(bR5 _).symm,(bR5 _).symm⟩
end Go.Proofs.Led
