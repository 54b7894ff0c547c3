/- Lemmas. -/
import Derived.Test.YtecbpikbjfihmaaGreatDoorB9
set_option linter.all false
set_option autoImplicit true
set_option relaxedAutoImplicit true
set_option maxRecDepth 100000
set_option maxHeartbeats 4000000
noncomputable section
namespace Go.Proofs.Led
open Go Go.Proofs Go.Ab
open Classical in
def one(p:Prop):Int:=if p then 1 else 0
def one_t(h:p):one p=1:=QU h
def one_f(h:¬p):one p=0:=Q9 h
def one_or p:(p/\one p=1)\/(¬p/\one p=0):=by
 by_cases h:p;exact .inl ⟨h,one_t h⟩;exact .inr ⟨h,one_f h⟩
def one_c(h:p↔q):one p=one q:=by rw[propext h]
def sgE(e:Sg):Int:=if e.1.2<e.2.2 then 1 else-1
def wt(e:Sg)(p:Vc):Int:=sgE e*one (ray e p)
def wt_vals e p:(ray e p/\e.1.2<=p.2/\p.2<e.2.2/\0<X (dif e.2 e.1) (dif p e.1)/\wt e p=1)\/(ray e p/\e.2.2<=p.2/\p.2<e.1.2/\X (dif e.2 e.1) (dif p e.1)<0/\wt e p= -1)\/(¬ray e p/\wt e p=0):=by
 unfold wt sgE;by_cases h:ray e p;rw[one_t h];unfold ray rayC at h;rcases h with h|h;rw[QU Aa];exact .inl ⟨.inl h,h.1,h.2.1,h.2.2,rfl⟩;rw[Q9 Aa];exact .inr (.inl ⟨.inr h,h.1,h.2.1,h.2.2,rfl⟩);rw[one_f h];exact .inr (.inr ⟨h,Aa⟩)
def wt_cell(f:p.2<=q.2)(h:Sep p q e):wt e p-wt e q=one (inRt p q e.2)-one (inRt p q e.1):=by
 have k:=eT3 f h;rcases one_or (inRt p q e.1)with⟨c,j⟩|⟨c,j⟩<;>rcases one_or (inRt p q e.2)with⟨d,l⟩|⟨d,l⟩<;>rcases wt_vals e p with⟨a,g⟩|⟨a,g⟩|⟨a,g⟩<;>rcases wt_vals e q with⟨b,i⟩|⟨b,i⟩|⟨b,i⟩<;>simp[a,b,c,d,iff_true,iff_false,not_true,not_false_eq_true]at k<;>unfold inRt at c d<;>omega
def wt_on(h:X (dif e.2 e.1) (dif p e.1)=0):wt e p=0:=by
 rcases wt_vals e p with k|k|k;omega;omega;exact k.2
def inRt_on(h:X (dif q p) (dif z p)=0):one (inRt p q z)=0:=one_f λk=>by unfold inRt at k;omega
def sumI(n:Nat)(g:Nat->Int):Int:=((List.range n).map g).sum
theorem sumI_zero g:sumI 0 g=0:=rfl
theorem sumI_succ n g:sumI (n+1) g=sumI n g+g n:=by
 unfold sumI;rw[UF,RH,List.sum_append];simp
theorem sumI_head n g:sumI (n+1) g=g 0+sumI n (λi=>g (i+1)):=by
 induction n with
 |zero=>rw[sumI_succ,sumI_zero,sumI_zero];omega
 |succ n a=>rw[sumI_succ,a,sumI_succ];omega
def sumI_congr(h:∀i,i<n->g i=k i):sumI n g=sumI n k:=by
 induction n with
 |zero=>rfl
 |succ n a=>rw[sumI_succ,sumI_succ,a (λi hi=>h i Aa),h n Aa]
def sumI_tele n(g:Nat->Int):sumI n (λi=>g (i+1)-g i)=g n-g 0:=by
 induction n with
 |zero=>rw[sumI_zero];omega
 |succ n a=>rw[sumI_succ,a];omega
theorem sumI_add n g k:sumI n (λi=>g i+k i)=sumI n g+sumI n k:=LM
theorem sumI_sub n g k:sumI n (λi=>g i-k i)=sumI n g-sumI n k:=LM
def wn(u:Nat->Vc)(n:Nat)(p:Vc):Int:=sumI n λi=>wt (u i,u (i+1)) p
def wn_rot(a:∀i,u (i+n)=u i) p:∀k,wn (λi=>u (i+k)) n p=wn u n p:=by
 intro k;induction k with
 |zero=>rfl
 |succ k e=>
  rw[<-e];unfold wn;cases n with
  |zero=>rfl
  |succ n=>
   rw[sumI_succ,sumI_head];simp only;have b:u (n+(k+1))=u (0+k):=by rw[show n+(k+1)=(0+k)+(n+1) by omega,a]
   have c:u (n+1+(k+1))=u (0+1+k):=by rw[show n+1+(k+1)=(0+1+k)+(n+1) by omega,a]
   rw[b,c];have:∀i,u (i+1+(k+1))=u (i+1+1+k):=λi=>by rw[show i+1+(k+1)=i+1+1+k by omega]
   have d:sumI n (λi=>wt (u (i+(k+1)),u (i+1+(k+1))) p)=sumI n (λi=>wt (u (i+1+k),u (i+1+1+k)) p):=
    sumI_congr λi _=>by rw[this,show i+(k+1)=i+1+k by omega]
   rw[d];omega
def wn_cor(c:2<=n)(b:u n=u 0)(a:p.2<=q.2)(h:∀i,2<=i->i<n->Sep p q (u i,u (i+1))):
 wn u n p-wn u n q=wt (u 0,u 1) p-wt (u 0,u 1) q+(wt (u 1,u 2) p-wt (u 1,u 2) q)+one (inRt p q (u 0))-one (inRt p q (u 2)):=by
 obtain⟨m,rfl⟩:∃m,n=m+1+1:=⟨n-2,Aa⟩;unfold wn;rw[sumI_head,sumI_head,sumI_head (m+1),sumI_head m (λi=>wt (u (i+1),u (i+1+1)) q)]
 have e:sumI m (λi=>wt (u (i+1+1),u (i+1+1+1)) p)-sumI m (λi=>wt (u (i+1+1),u (i+1+1+1)) q)=one (inRt p q (u 0))-one (inRt p q (u 2)):=by
  rw[<-sumI_sub];have k:=sumI_tele m λi=>one (inRt p q (u (i+2)));rw[b]at k;rw[<-show sumI m (λi=>one (inRt p q (u (i+1+2)))-one (inRt p q (u (i+2))))=_ from k];exact sumI_congr λi hi=>wt_cell a (h (i+2) Aa Aa)
 simp[SX,Nat.reduceAdd]at e⊢;omega
structure Btw(c d z:Vc):Prop where
 out:∃N k:Int,0<k/\k<N/\N*(z.1-c.1)=k*(d.1-c.1)/\N*(z.2-c.2)=k*(d.2-c.2)
def Btw.symm(h:Btw c d z):Btw d c z:=by
 let⟨N,k,a,b,e,f⟩:=h.out;exact⟨N,N-k,Aa,Aa,Bg,Bg⟩
def cE(e:Sg):Int:=if e.1.2<e.2.2\/(e.1.2=e.2.2/\e.2.1<e.1.1)then 1 else 0
def cE_vals e:((e.1.2<e.2.2\/(e.1.2=e.2.2/\e.2.1<e.1.1))/\cE e=1)\/(¬(e.1.2<e.2.2\/(e.1.2=e.2.2/\e.2.1<e.1.1))/\cE e=0):=by
 unfold cE;split;exact .inl ⟨Ag,rfl⟩;exact .inr ⟨Ag,rfl⟩
def sg_of{N k x y:Int}(a:0<k)(b:k<N)(h:N*x=k*y):(0<x↔0<y)/\(x<0↔y<0):=by
 have:=dI1 (N:=N) (m:=k) (x:=x) (y:=y) Aa a h;omega
def corner_in(s:Btw v a z)
 (A:b.2=v.2\/(z.2-v.2<b.2-v.2/\v.2-b.2<z.2-v.2)\/(z.2-v.2<v.2-b.2/\b.2-v.2<z.2-v.2))
 (j:(z.2<=v.2/\d-w0=wt (v,b) z-one (inRt z v b))\/(v.2<z.2/\d-w0=wt (v,b) z+one (inRt v z b))):
 d-w0=if a.2<v.2 then(if b.2<=v.2/\X (dif b v) (dif a v)<0 then-1 else 0)else(if v.2<b.2/\0<X (dif b v) (dif a v)then 1 else 0):=by
 let⟨N,k,i,g,u,r⟩:=s.out;obtain⟨T,hTe⟩:∃T,T=X (dif b v) (dif a v):=⟨_,rfl⟩;have B:=sg_of i g (show N*X (dif b v) (dif z v)=k*T from BB);have t:=sg_of i g (show N*X (dif v z) (dif b z)=k*T from BB);have o:=sg_of i g (show N*X (dif z v) (dif b v)=k* -T from BB);have n:=sg_of i g r;rw[<-hTe];have p1:=wt_vals (v,b) z;have q1:=one_or (inRt z v b);have f:=one_or (inRt v z b);generalize one (inRt z v b)=o1 at*;generalize one (inRt v z b)=o2 at*;generalize wt (v,b) z=m at*;unfold ray rayC at p1;unfold inRt at q1 f;simp only at p1;clear u r hTe;generalize X (dif b v) (dif z v)=w at*;generalize X (dif v z) (dif b z)=x at*;generalize X (dif z v) (dif b v)=y at*;rcases Int.lt_trichotomy a.2 v.2 with l|l|l
 ·rw[QU l]
  have e:z.2<v.2:=Aa;clear f o n;have j:=Aa;by_cases c:b.2<=v.2/\T<0
  ·exact Kw
  ·exact Ky
 ·rw[Q9 Aa]
  have e:z.2=v.2:=Aa;clear f o n;have j:=Aa;by_cases c:v.2<b.2/\0<T
  ·exact Kw
  ·exact Ky
 ·rw[Q9 Aa]
  have e:v.2<z.2:=Aa;clear q1 t n;have j:=Aa;by_cases c:v.2<b.2/\0<T
  ·rw[QU c]
   rcases p1 with p|p|p<;>rcases f with q|q<;>omega
  ·rw[Q9 c]
   rcases p1 with p|p|p<;>rcases f with q|q<;>omega
def corner_out(j:Btw v b z)
 (s:a.2=v.2\/(z.2-v.2<a.2-v.2/\v.2-a.2<z.2-v.2)\/(z.2-v.2<v.2-a.2/\a.2-v.2<z.2-v.2))
 (t:(v.2<=z.2/\w2-w0=wt (a,v) z-one (inRt v z a))\/(z.2<v.2/\w2-w0=wt (a,v) z+one (inRt z v a))):
 w2-w0=if b.2<v.2 then(if a.2<=v.2/\0<X (dif b v) (dif a v)then 1 else 0)else(if v.2<a.2/\X (dif b v) (dif a v)<0 then-1 else 0):=by
 let⟨N,k,f,e,m,i⟩:=j.out;obtain⟨T,hTe⟩:∃T,T=X (dif b v) (dif a v):=⟨_,rfl⟩;have u:=sg_of f e (show N*X (dif v a) (dif z a)=k*T from BB);have l:=sg_of f e (show N*X (dif z v) (dif a v)=k*T from BB);have s6:=sg_of f e (show N*X (dif v z) (dif a z)=k* -T from BB);have t1:=sg_of f e i;rw[<-hTe];have p1:=wt_vals (a,v) z;have q1:=one_or (inRt v z a);have q2:=one_or (inRt z v a);generalize one (inRt v z a)=o1 at*;generalize one (inRt z v a)=o2 at*;generalize wt (a,v) z=o5 at*;unfold ray rayC at p1;unfold inRt at q1 q2;simp only at p1;clear m i hTe;generalize X (dif v a) (dif z a)=n at*;generalize X (dif z v) (dif a v)=o at*;generalize X (dif v z) (dif a z)=r at*;rcases Int.lt_trichotomy b.2 v.2 with g|g|g
 ·rw[QU g]
  have d:z.2<v.2:=Aa;clear q1 l t1;have h1:=Aa;by_cases c:a.2<=v.2/\0<T
  ·rw[QU c]
   rcases p1 with p|p|p<;>rcases q2 with q|q<;>omega
  ·rw[Q9 c]
   rcases p1 with p|p|p<;>rcases q2 with q|q<;>omega
 ·rw[Q9 Aa]
  have d:z.2=v.2:=Aa;exact PU
 ·rw[Q9 Aa]
  have d:v.2<z.2:=Aa;exact PU
def corner_num(e:X (dif b v) (dif a v)≠0)
 (h1:c-w0=if a.2<v.2 then(if b.2<=v.2/\X (dif b v) (dif a v)<0 then-1 else 0)else(if v.2<b.2/\0<X (dif b v) (dif a v)then 1 else 0))
 (h2:d-w0=if b.2<v.2 then(if a.2<=v.2/\0<X (dif b v) (dif a v)then 1 else 0)else(if v.2<a.2/\X (dif b v) (dif a v)<0 then-1 else 0)):
 c+cE (a,v)=d+cE (v,b):=by
 have u1:a.2=v.2->X (dif b v) (dif a v)=(v.2-b.2)*(a.1-v.1):=λh=>Hu;have u2:b.2=v.2->X (dif b v) (dif a v)=(a.2-v.2)*(b.1-v.1):=λh=>Hu;have g1:=sgn (v.2-b.2) (a.1-v.1);have g2:=sgn (a.2-v.2) (b.1-v.1);unfold cE;simp only;generalize X (dif b v) (dif a v)=T at*;generalize (v.2-b.2)*(a.1-v.1)=f at*;generalize (a.2-v.2)*(b.1-v.1)=g at*;rcases Int.lt_trichotomy a.2 v.2 with ha|ha|ha<;>rcases Int.lt_trichotomy b.2 v.2 with hb|hb|hb
 ·exact Ko
 ·exact LP
 ·exact Ko
 ·exact LQ
 ·have:=u1 ha
  have:=u2 hb;omega
 ·exact LQ
 ·exact Ko
 ·exact LP
 ·exact Ko
def Ap(e f:Sg):Prop:=Sep e.1 e.2 f/\(X (dif e.2 e.1) (dif f.1 e.1)=0->X (dif e.2 e.1) (dif f.2 e.1)=0->∀h:Int,¬(((e.1.2<h/\h<e.2.2)\/(e.2.2<h/\h<e.1.2))/\((f.1.2<h/\h<f.2.2)\/(f.2.2<h/\h<f.1.2))))
structure Simp(u:Nat->Vc)(n:Nat)(M:Int):Prop where
 n3:3<=n
 per:∀i,u (i+n)=u i
 m0:0<M
 ev:∀i,∃k l:Int,u i=(2*M*k,2*M*l)
 tn:∀i,X (dif (u (i+2)) (u (i+1))) (dif (u i) (u (i+1)))≠0
 sp:∀i j,i+2<=j->j+2<=i+n->Ap (u i,u (i+1)) (u j,u (j+1))
 dv:∀i h,(u i).2≠(u (i+1)).2->∃x,X (dif (u (i+1)) (u i)) (dif (x,M*h) (u i))=0
def Simp.rot(h:Simp u n M) k:Simp (λi=>u (i+k)) n M where
 n3:=h.n3
 per:=λi=>by
  show u (i+n+k)=u (i+k);rw[show i+n+k=i+k+n from Aa,h.per]
 m0:=h.m0
 ev:=λi=>h.ev (i+k)
 tn:=λi=>by
  have:=h.tn (i+k);show X (dif (u (i+2+k)) (u (i+1+k))) (dif (u (i+k)) (u (i+1+k)))≠0;rw[show i+2+k=i+k+2 from Aa,show i+1+k=i+k+1 from Aa];exact this
 sp:=λi j h1 h2=>by
  have:=h.sp (i+k) (j+k) Aa Aa;show Ap (u (i+k),u (i+1+k)) (u (j+k),u (j+1+k));rw[show i+1+k=i+k+1 from Aa,show j+1+k=j+k+1 from Aa];exact this
 dv:=λi y hy=>by
  have:=h.dv (i+k) y (by
   have hy':=hy;rw[show i+1+k=i+k+1 from Aa]at hy';exact hy')
  show∃x,X (dif (u (i+1+k)) (u (i+k))) (dif (x,M*y) (u (i+k)))=0;rw[show i+1+k=i+k+1 from Aa];exact this
def Btw.onA(h:Btw c d z):X (dif d c) (dif z c)=0:=by
 let⟨N,k,a,b,e,f⟩:=h.out;exact PG
structure Frac(c d z:Vc)(N k:Int):Prop where
 pos:0<N
 e1:N*(z.1-c.1)=k*(d.1-c.1)
 e2:N*(z.2-c.2)=k*(d.2-c.2)
def frac0 c d:Frac c d c 1 0:=⟨Ai,Ad,Ad⟩
def frac1 c d:Frac c d d 1 1:=⟨Ai,Ad,Ad⟩
def Frac.on(h:Frac c d z N k):X (dif d c) (dif z c)=0:=by
 let⟨a,b,e⟩:=h;exact PG
def frac_lin(j:Frac c d p N k)(l:Frac c d q a b) z:
 N*a*X (dif q p) (dif z p)=(b*N-k*a)*X (dif d c) (dif z c):=by
 let⟨s,t,v⟩:=j;let⟨m,o,r⟩:=l;unfold X dif;simp only;have e:N*a*(q.1-p.1)=(b*N-k*a)*(d.1-c.1):=Bg;have f:N*a*(q.2-p.2)=(b*N-k*a)*(d.2-c.2):=Bg;have g:N*(z.1-p.1)=N*(z.1-c.1)-k*(d.1-c.1):=Bg;have i:N*(z.2-p.2)=N*(z.2-c.2)-k*(d.2-c.2):=Bg
 have:N*(N*a*((q.1-p.1)*(z.2-p.2)- (q.2-p.2)*(z.1-p.1)))=N*((b*N-k*a)*((d.1-c.1)*(z.2-c.2)- (d.2-c.2)*(z.1-c.1))):=by
  have:N*(N*a*((q.1-p.1)*(z.2-p.2)- (q.2-p.2)*(z.1-p.1)))=(N*a*(q.1-p.1))*(N*(z.2-p.2))- (N*a*(q.2-p.2))*(N*(z.1-p.1)):=Bg;rw[this,e,f,g,i];grind
 exact Int.eq_of_mul_eq_mul_left Aa this
def frac_mix(a:Frac c d p N k)(e:Sg):N*X (dif e.2 e.1) (dif p e.1)=(N-k)*X (dif e.2 e.1) (dif c e.1)+k*X (dif e.2 e.1) (dif d e.1):=by
 let⟨b,f,g⟩:=a;unfold X dif;simp only;grind
def sep_two(s:Frac c d p N k)(v:Frac c d q f i)(H:0<=k)(I:k<=N)(J:0<=i)(K:i<=f)(l:i*N-k*f≠0)(h:Sep c d e):Sep p q e:=by
 have D:=s.pos;have j:=v.pos;have F:0<N*f:=Int.mul_pos D j;have B:=frac_lin s v e.1;have C:=frac_lin s v e.2;have L:=frac_mix s e;have O:=frac_mix v e
 have key:∀x y:Int,N*f*x=(i*N-k*f)*y->(0<i*N-k*f->(0<x↔0<y)/\(x<0↔y<0))/\(i*N-k*f<0->(0<x↔y<0)/\(x<0↔0<y)):=by
  intro x y g;have P:=sgn (N*f) x;have E:=sgn (i*N-k*f) y;rw[<-g]at E;generalize N*f*x=t at*;omega
 have m:∀ {N k x y z:Int},0<N->0<=k->k<=N->N*x=(N-k)*y+k*z->(0<y->0<z->0<x)/\(y<0->z<0->x<0)/\(y=0->z=0->x=0):=by
  intro N k x y z a b c e;have P:=sgn N x;have E:=sgn (N-k) y;have Q:=sgn k z;generalize N*x=R at*;generalize (N-k)*y=S at*;generalize k*z=T at*;omega
 have o:=key _ _ B;have r:=key _ _ C
 have z:∀x y:Int,N*f*x=(i*N-k*f)*y->y=0->x=0:=λx y g G=>by
  rw[G,Int.mul_zero]at g;rcases Int.mul_eq_zero.1 g with q|q;omega;exact q
 have w:=m D H I L;have A:=m j J K O;rcases h with h|h|h|h|h;rcases Int.lt_or_gt_of_ne l with c|c;exact .inr (.inl ⟨((o.2 c).2).2 h.1,((r.2 c).2).2 h.2⟩);exact .inl ⟨((o.1 c).1).2 h.1,((r.1 c).1).2 h.2⟩;rcases Int.lt_or_gt_of_ne l with c|c;exact .inl ⟨((o.2 c).1).2 h.1,((r.2 c).1).2 h.2⟩;exact .inr (.inl ⟨((o.1 c).2).2 h.1,((r.1 c).2).2 h.2⟩);exact .inr (.inr (.inl ⟨w.1 h.1 h.2,A.1 h.1 h.2⟩));exact .inr (.inr (.inr (.inl ⟨w.2.1 h.1 h.2,A.2.1 h.1 h.2⟩)));exact .inr (.inr (.inr (.inr ⟨z _ _ B h.1,z _ _ C h.2.1,w.2.2 h.2.2.1 h.2.2.2,A.2.2 h.2.2.1 h.2.2.2⟩)))
def sep_adj(j:Frac v a p N k)(l:Frac v a q i g)(x:0<k)(y:0<g)(w:X (dif b v) (dif a v)≠0):Sep p q (v,b)/\Sep p q (b,v):=by
 have m:N*X (dif b v) (dif p v)=k*X (dif b v) (dif a v):=by
  let⟨r,s,t⟩:=j;unfold X dif;simp only;grind
 have o:i*X (dif b v) (dif q v)=g*X (dif b v) (dif a v):=by
  let⟨r,s,t⟩:=l;unfold X dif;simp only;grind
 have f:∀z:Vc,X (dif v b) (dif z b)= -X (dif b v) (dif z v):=λz=>AQ;have d:=dI1 (by have:=j.pos;omega) x m;have e:=dI1 (by have:=l.pos;omega) y o;rcases Int.lt_or_gt_of_ne w with c|c;exact⟨.inr (.inr (.inr (.inl ⟨d.2.1 c,e.2.1 c⟩))), .inr (.inr (.inl ⟨by show 0<X (dif v b) (dif p b);rw[f];have:=d.2.1 c;omega,by show 0<X (dif v b) (dif q b);rw[f];have:=e.2.1 c;omega⟩))⟩;exact⟨.inr (.inr (.inl ⟨d.1 c,e.1 c⟩)), .inr (.inr (.inr (.inl ⟨by show X (dif v b) (dif p b)<0;rw[f];have:=d.1 c;omega,by show X (dif v b) (dif q b)<0;rw[f];have:=e.1 c;omega⟩)))⟩
theorem X_flip a b v:X (dif a v) (dif b v)= -X (dif b v) (dif a v):=AQ
section
variable{u:Nat->Vc}{n:Nat}{M:Int}(h:Simp u n M)
include h
theorem Simp.end0:u n=u 0:=by have:=h.per 0;rw[SX]at this;exact this
theorem Simp.end1:u (n-1+1)=u 0:=by rw[show n-1+1=n by have:=h.n3;omega];exact h.end0
theorem Simp.tn0:X (dif (u 1) (u 0)) (dif (u (n-1)) (u 0))≠0:=by
 have a:=h.n3;have:=h.tn (n-1);rw[show n-1+2=1+n from Aa,h.per,h.end1]at this;exact this
theorem Simp.far(d:Frac (u 0) (u 1) p N k)(e:Frac (u 0) (u 1) q b a)(g:0<k)(j:k<=N)(l:0<a)(m:a<=b)(c:a*N-k*b≠0):∀i,2<=i->i<n->Sep p q (u i,u (i+1)):=by
 intro i o hi;have r:=h.n3;by_cases f:i=n-1;subst f;rw[h.end1];refine(sep_adj d e g l ?_).2;rw[X_flip];have:=h.tn0;omega;exact sep_two d e Aa j Aa m c (h.sp 0 i Aa Aa).1
theorem Simp.far2(c:Frac (u 1) (u 2) p N k)(d:Frac (u 1) (u 2) q a b)(l:0<=k)(s:k<N)(m:0<=b)(t:b<a)(e:b*N-k*a≠0):∀i,2<=i->i<n->Sep p q (u i,u (i+1)):=by
 intro i o hi;have r:=h.n3;by_cases j:i=2;subst j;have f:Frac (u 2) (u 1) p N (N-k):=⟨c.pos,by have:=c.e1;grind,by have:=c.e2;grind⟩;have g:Frac (u 2) (u 1) q a (a-b):=⟨d.pos,by have:=d.e1;grind,by have:=d.e2;grind⟩;exact(sep_adj f g Aa Aa (h.tn 1)).1;exact sep_two c d l Aa m Aa e (h.sp 1 i Aa Aa).1
theorem Simp.same0(b:Btw (u 0) (u 1) p)(f:Btw (u 0) (u 1) q):wn u n p=wn u n q:=by
 have key:∀{p q},Btw (u 0) (u 1) p->Btw (u 0) (u 1) q->p.2<=q.2->wn u n p=wn u n q:=by
  intro p q b f d;let⟨N,k,t,I,v,w⟩:=b.out;let⟨a,r,x,J,y,A⟩:=f.out;have g:Frac (u 0) (u 1) p N k:=⟨Aa,v,w⟩;have j:Frac (u 0) (u 1) q a r:=⟨Aa,y,A⟩;by_cases o:r*N-k*a=0;have D:N*a*(p.1-q.1)=0:=by grind
  have E:N*a*(p.2-q.2)=0:=Bg;have m:0<N*a:=Int.mul_pos Aa Aa;have B:p.1=q.1:=by rcases Int.mul_eq_zero.1 D with q|q<;>omega
  have C:p.2=q.2:=by rcases Int.mul_eq_zero.1 E with q|q<;>omega
  rw[show p=q from Prod.ext B C];have K:=h.n3;have L:=wn_cor (u:=u) (n:=n) Aa h.end0 d (h.far g j t Aa x Aa o);have F:X (dif (u 2) (u 1)) (dif (u 0) (u 1))≠0:=h.tn 0;have i:Frac (u 1) (u 0) p N (N-k):=⟨g.pos,Bg,Bg⟩;have l:Frac (u 1) (u 0) q a (a-r):=⟨j.pos,Bg,Bg⟩;have G:=wt_cell d (sep_adj i l Aa Aa F).1;simp only at G;have P:=wt_on (e:=(u 0,u 1)) b.onA;have Q:=wt_on (e:=(u 0,u 1)) f.onA
  have s:∀z,X (dif (u 1) (u 0)) (dif z (u 0))=0->one (inRt p q z)=0:=λz H=>inRt_on (by
   have:=frac_lin g j z;rw[H,Int.mul_zero]at this;have m:0<N*a:=Int.mul_pos Aa Aa;rcases Int.mul_eq_zero.1 this with q|q;omega
   exact q)
  have O:=s (u 0) (frac0 (u 0) (u 1)).on;have o1:=s (u 1) (frac1 (u 0) (u 1)).on;omega
 rcases Int.le_total p.2 q.2 with c|c;exact key b f c;exact(key f b c).symm
theorem Simp.corner0(v:Btw (u 1) (u 0) z)(b:Btw (u 1) (u 2) z')
 (G:(u 2).2=(u 1).2\/(z.2- (u 1).2< (u 2).2- (u 1).2/\(u 1).2- (u 2).2<z.2- (u 1).2)\/(z.2- (u 1).2< (u 1).2- (u 2).2/\(u 2).2- (u 1).2<z.2- (u 1).2))
 (H:(u 0).2=(u 1).2\/(z'.2- (u 1).2< (u 0).2- (u 1).2/\(u 1).2- (u 0).2<z'.2- (u 1).2)\/(z'.2- (u 1).2< (u 1).2- (u 0).2/\(u 0).2- (u 1).2<z'.2- (u 1).2)):
 wn u n z+cE (u 0,u 1)=wn u n z'+cE (u 1,u 2):=by
 have Q:=h.n3;have I:=h.tn 0;let⟨N,k,w,O,C,D⟩:=v.symm.out;let⟨B,g,P,x,E,F⟩:=b.out;have o:Frac (u 0) (u 1) z N k:=⟨Aa,C,D⟩;have a:Frac (u 1) (u 2) z' B g:=⟨Aa,E,F⟩;have m:=frac1 (u 0) (u 1);have l:=frac0 (u 1) (u 2);have y:∀e:Sg,X (dif e.2 e.1) (dif e.2 e.1)=0:=λe=>AQ;have A:∀e:Sg,X (dif e.2 e.1) (dif e.1 e.1)=0:=λe=>I4;have S:wt (u 0,u 1) z=0:=wt_on v.symm.onA;have R:wt (u 0,u 1) (u 1)=0:=wt_on (y (u 0,u 1));have L:wt (u 1,u 2) z'=0:=wt_on b.onA;have J:wt (u 1,u 2) (u 1)=0:=wt_on (A (u 1,u 2))
 have i:∀ {p q:Vc} {K k r g:Int},Frac (u 0) (u 1) p K k->Frac (u 0) (u 1) q r g->one (inRt p q (u 0))=0:=λd f=>inRt_on (by
  have:=frac_lin d f (u 0);rw[A (u 0,u 1),Int.mul_zero]at this;have s:=Int.mul_pos d.pos f.pos;rcases Int.mul_eq_zero.1 this with q|q;omega
  exact q)
 have j:∀ {p q:Vc} {K k r g:Int},Frac (u 1) (u 2) p K k->Frac (u 1) (u 2) q r g->one (inRt p q (u 2))=0:=λd f=>inRt_on (by
  have:=frac_lin d f (u 2);rw[y (u 1,u 2),Int.mul_zero]at this;have s:=Int.mul_pos d.pos f.pos;rcases Int.mul_eq_zero.1 this with q|q;omega
  exact q)
 refine corner_num (w0:=wn u n (u 1)) I (corner_in v G ?_) (corner_out b H ?_)
 ·rcases U8 (u 1).2 z.2 with c|c
  ·right
   have t:=wn_cor (u:=u) (n:=n) Aa h.end0 (show(u 1).2<=z.2 from Aa) (h.far m o Ai Ai w Aa Aa);have:=i m o;exact⟨c,Aa⟩
  ·left
   have t:=wn_cor (u:=u) (n:=n) Aa h.end0 c (h.far o m w Aa Ai Ai Aa);have:=i o m;exact⟨c,Aa⟩
 ·rcases U8 z'.2 (u 1).2 with c|c
  ·right
   have t:=wn_cor (u:=u) (n:=n) Aa h.end0 (show z'.2<=(u 1).2 from Aa) (h.far2 a l Aa x Ai Ai Aa);have:=j a l;exact⟨c,Aa⟩
  ·left
   have t:=wn_cor (u:=u) (n:=n) Aa h.end0 c (h.far2 l a Ai Ai Aa x Aa);have:=j l a;exact⟨c,Aa⟩
end
def even_gap(f:0<M){x y k l:Int}(b:x=2*M*k)(d:y=2*M*l)(a:x≠y):2*M<=x-y\/2*M<=y-x:=by
 have e:=Aa;rcases Int.lt_trichotomy k l with c|c|c;right;have:=Int.mul_le_mul_of_nonneg_left (show 1<=l-k from Aa) (show 0<=2*M from Aa);rw[Int.mul_sub,<-b,<-d]at this;omega;exact absurd (by rw[b,d,c]) a;left;have:=Int.mul_le_mul_of_nonneg_left (show 1<=k-l from Aa) (show 0<=2*M from Aa);rw[Int.mul_sub,<-b,<-d]at this;omega
def btw_at(a:X (dif d c) (dif z c)=0)(h:(c.2<z.2/\z.2<d.2)\/(d.2<z.2/\z.2<c.2)):Btw c d z:=by
 unfold X dif at a;simp only at a;rcases h with h|h;exact⟨d.2-c.2,z.2-c.2,Aa,Aa,Bg,Bg⟩;exact⟨c.2-d.2,c.2-z.2,Aa,Aa,Bg,Bg⟩
def Btw.hts(h:Btw c d z):(c.2<d.2->c.2<z.2/\z.2<d.2)/\(d.2<c.2->d.2<z.2/\z.2<c.2)/\(c.2=d.2->z.2=c.2):=by
 have j:=h.symm;let⟨N,k,f,g,o,i⟩:=h.out;let⟨l,q,a,b,m,e⟩:=j.out;have r:=sg_of f g i;have s:=sg_of a b e;refine⟨λh=>Aa,λh=>Aa,λh=>Aa⟩
def argmin{P:Nat->Prop}(f:Nat->Int):∀ n,(∃j,j<n/\P j)->∃i,i<n/\P i/\∀j,j<n->P j->f i<=f j
 |0,⟨j,d,_⟩=>Aa
 |n+1,⟨j,d,m⟩=>by
  by_cases h:∃j,j<n/\P j;let⟨i,q,o,b⟩:=argmin f n h;by_cases l:P n/\f n<f i;refine⟨n,Aa,l.1,λk g a=>?_⟩;by_cases e:k=n;rw[e];exact TB _;have:=b k Aa a;omega;refine⟨i,Aa,o,λk g a=>?_⟩;by_cases e:k=n;subst e;rcases U8 (f k) (f i)with c|c;exact absurd ⟨a,c⟩ l;exact c;exact b k Aa a
  have e:j=n:=by
   rcases Sj j n with c|c;exact absurd ⟨j,c,m⟩ h;omega
  subst e;refine⟨j,d,m,λk g a=>?_⟩;by_cases e:k=j;rw[e];exact TB _;exact absurd ⟨k,Aa,a⟩ h
def sumI_one(hi:i<n)(h:∀j,j<n->j≠i->g j=k j):sumI n g-sumI n k=g i-k i:=by
 induction n with
 |zero=>omega
 |succ n c=>
  rw[sumI_succ,sumI_succ];by_cases e:i=n;subst e;rw[sumI_congr λj b=>h j Aa Aa];omega;have:=c Aa λj b a=>h j Aa a;have:=h n Aa (λq=>e q.symm);omega
def ray_lt(b:X (dif e.2 e.1) (dif z e.1)=0)(a:z.2=p.2)(c:(e.1.2<p.2/\p.2<e.2.2)\/(e.2.2<p.2/\p.2<e.1.2)):ray e p↔p.1<z.1:=by
 unfold ray rayC
 have k:X (dif e.2 e.1) (dif p e.1)=(e.2.2-e.1.2)*(z.1-p.1):=by
  unfold X dif at*;simp only at*;rw[<-a];grind
 have s:=sgn (e.2.2-e.1.2) (z.1-p.1);rw[<-k]at s;generalize X (dif e.2 e.1) (dif p e.1)=x at*;omega
def Ap.no(h:Ap (a,b) (c,d))(hi:a.2≠b.2)(K:c.2≠d.2)(j:Btw a b z)(l:Btw c d z):False:=by
 let⟨w,r⟩:=h;let⟨N,k,A,L,B,C⟩:=j.out;let⟨s,x,D,O,E,F⟩:=l.out;have t:Frac a b z N k:=⟨Aa,B,C⟩;have v:Frac c d z s x:=⟨Aa,E,F⟩;have g:=frac_mix t (c,d);have i:=frac_mix v (a,b);have o1:=l.onA;have o2:=j.onA;simp only at g i;rw[o1,Int.mul_zero]at g;rw[o2,Int.mul_zero]at i;have G:=j.hts;have H:=l.hts
 have f:∀ {a b y z:Int},0<a->0<b->0=a*y+b*z->¬(0<y/\0<z)/\¬(y<0/\z<0):=by
  intro a b y z I J e;have P:=sgn a y;have Q:=sgn b z;generalize a*y=G at*;generalize b*z=H at*;omega
 have m:=f Aa A g;have o:=f Aa D i;simp only at r;rcases w with q|q|q|q|q;exact o.1 q;exact o.2 q;exact m.1 q;exact m.2 q;refine r q.1 q.2.1 z.2 ?_;clear g i m o f q;omega
section
variable{u:Nat->Vc}{n:Nat}{M:Int}(h:Simp u n M)
include h
theorem Simp.gap i j(a:(u i).2≠(u j).2):2*M<=(u i).2- (u j).2\/2*M<=(u j).2- (u i).2:=by
 let⟨k,l,e⟩:=h.ev i;let⟨d,c,b⟩:=h.ev j;exact even_gap h.m0 (k:=l) (l:=c) Io (by rw[b]) a
theorem Simp.near i j(d:j=i\/j=i+1):∃z,Btw (u i) (u (i+1)) z/\((z.2=(u j).2/\(u i).2=(u (i+1)).2)\/z.2=(u j).2-M\/z.2=(u j).2+M):=by
 have t:=h.m0;by_cases c:(u i).2=(u (i+1)).2;let⟨k,l,e⟩:=h.ev i;let⟨f,v,m⟩:=h.ev (i+1);refine⟨(M*k+M*f,(u i).2),⟨2,1,Ai,Ai,?_,?_⟩, .inl ⟨?_,c⟩⟩;show 2*(M*k+M*f- (u i).1)=1*((u (i+1)).1- (u i).1);rw[e,m];simp only;rw[Int.mul_assoc,Int.mul_assoc];omega;show 2*((u i).2- (u i).2)=1*((u (i+1)).2- (u i).2);omega;rcases d with rfl|rfl;rfl;exact c;have g:=h.gap i (i+1) c;let⟨k,l,e⟩:=h.ev j;have b:(u j).2=M*(2*l):=CV;have o:M*(2*l-1)=(u j).2-M:=by rw[Int.mul_sub,<-b,Int.mul_one]
 have q:M*(2*l+1)=(u j).2+M:=by rw[Int.mul_add,<-b,Int.mul_one]
 by_cases s:((u i).2< (u (i+1)).2/\j=i)\/((u (i+1)).2< (u i).2/\j=i+1);let⟨x,a⟩:=h.dv i (2*l+1) c;rw[q]at a;refine⟨_,btw_at a ?_, .inr (.inr rfl)⟩;simp only;rcases s with⟨r,rfl⟩|⟨r,rfl⟩<;>omega;let⟨x,a⟩:=h.dv i (2*l-1) c;rw[o]at a;refine⟨_,btw_at a ?_, .inr (.inl rfl)⟩;simp only;rcases d with rfl|rfl<;>omega
theorem Simp.wn_at k p:wn (λi=>u (i+k)) n p=wn u n p:=wn_rot h.per p k
theorem Simp.same i(a:Btw (u i) (u (i+1)) p)(b:Btw (u i) (u (i+1)) q):wn u n p=wn u n q:=by
 have c:=h.rot i;rw[<-h.wn_at i p,<-h.wn_at i q];refine c.same0 ?_ ?_;show Btw (u (0+i)) (u (1+i)) p;rw[SX,Nat.add_comm];exact a;show Btw (u (0+i)) (u (1+i)) q;rw[SX,Nat.add_comm];exact b
theorem Simp.corner i:∃z z',Btw (u i) (u (i+1)) z/\Btw (u (i+1)) (u (i+2)) z'/\wn u n z+cE (u i,u (i+1))=wn u n z'+cE (u (i+1),u (i+2)):=by
 have p:=h.m0;let⟨z,d,o⟩:=h.near i (i+1) (.inr rfl);let⟨z',a,b⟩:=h.near (i+1) (i+1) (.inl rfl);refine⟨z,z',d,a,?_⟩;have m:=h.rot i;have e:=SX i;have f:1+i=i+1:=Nat.add_comm _ _;have g:2+i=i+2:=Nat.add_comm _ _;rw[<-h.wn_at i z,<-h.wn_at i z'];have k:=m.corner0 (z:=z) (z':=z');simp[e,f,g]at k;have l:=h.gap (i+2) (i+1);have j:=h.gap i (i+1);refine k d.symm a ?_ ?_;by_cases c:(u (i+2)).2=(u (i+1)).2;exact .inl c;have:=l c;right;omega;by_cases c:(u i).2=(u (i+1)).2;exact .inl c;have:=j c;right;rcases b with q|q|q<;>omega
theorem Simp.lam:∃w,∀i z,Btw (u i) (u (i+1)) z->wn u n z+cE (u i,u (i+1))=w:=by
 let⟨z0,c,_⟩:=h.near 0 0 (.inl rfl);refine⟨wn u n z0+cE (u 0,u 1),λi=>?_⟩;induction i with
 |zero=>
  intro z b;rw[h.same 0 b c]
 |succ i f=>
  intro z b;let⟨y,g,d,a,e⟩:=h.corner i;rw[h.same (i+1) b a,<-f y d];exact e.symm
theorem Simp.uniq(t:i<j)(v:j<n)(hi:(u i).2≠(u (i+1)).2)(e:(u j).2≠(u (j+1)).2)(c:Btw (u i) (u (i+1)) z)(d:Btw (u j) (u (j+1)) z):False:=by
 have adj:∀k,Btw (u k) (u (k+1)) z->Btw (u (k+1)) (u (k+2)) z->False:=λk a b=>by
  have r:=h.tn k;let⟨N,l,w,x,y,A⟩:=a.symm.out;have s:=b.onA
  have:l*X (dif (u (k+2)) (u (k+1))) (dif (u k) (u (k+1)))=N*X (dif (u (k+2)) (u (k+1))) (dif z (u (k+1))):=by
   unfold X dif;simp only;grind
  rw[s,Int.mul_zero]at this;rcases Int.mul_eq_zero.1 this with q|q;omega;exact r q
 by_cases f:j=i+1;subst f;exact adj i c d;by_cases g:i=0/\j=n-1;obtain⟨rfl,rfl⟩:=g;have m:=h.end1
 have o:u (n-1+2)=u 1:=by
  rw[show n-1+2=1+n by have:=h.n3;omega];exact h.per 1
 exact adj (n-1) d (by rw[m,o];exact c);exact(h.sp i j Aa Aa).no hi e c d
end
def Md(M:Int)(p:Vc):Prop:=∃h:Int,p.2=M*(2*h+1)
def mid_ne{M k h:Int}(a:0<M):2*M*k≠M*(2*h+1):=by
 intro e;have:M*(2*k- (2*h+1))=0:=by rw[Int.mul_sub,<-e,<-Int.mul_assoc,Int.mul_comm M 2];omega
 rcases Int.mul_eq_zero.1 this with q|q<;>omega
def wt_eq(h:ray e p↔ray e q):wt e p=wt e q:=by unfold wt;rw[one_c h]
def wn_eq(h:∀i,i<n->(ray (u i,u (i+1)) p↔ray (u i,u (i+1)) q)):wn u n p=wn u n q:=sumI_congr λi hi=>wt_eq (h i hi)
def wn_none(h:∀i,i<n->¬ray (u i,u (i+1)) p):wn u n p=0:=by
 have:∀n,sumI n (λ_=>(0:Int))=0:=λn=>by
  induction n with
  |zero=>rfl
  |succ n a=>rw[sumI_succ,a];rfl
 rw[<-this n];exact sumI_congr λi hi=>by unfold wt;rw[one_f (h i hi),Int.mul_zero]
section
variable{u:Nat->Vc}{n:Nat}{M:Int}(h:Simp u n M)
include h
theorem Simp.mid i(a:Md M p):(u i).2≠p.2:=by
 let⟨k,l,e⟩:=h.ev i;let⟨y,b⟩:=a;rw[e,b];exact mid_ne h.m0
theorem Simp.cross(b:Md M p):∃f:Nat->Int,∀i,(((u i).2<p.2/\p.2< (u (i+1)).2)\/((u (i+1)).2<p.2/\p.2< (u i).2))->Btw (u i) (u (i+1)) (f i,p.2):=by
 let⟨y,d⟩:=b
 have:∀i,∃x,(((u i).2<p.2/\p.2< (u (i+1)).2)\/((u (i+1)).2<p.2/\p.2< (u i).2))->Btw (u i) (u (i+1)) (x,p.2):=λi=>by
  by_cases c:((u i).2<p.2/\p.2< (u (i+1)).2)\/((u (i+1)).2<p.2/\p.2< (u i).2);let⟨x,a⟩:=h.dv i (2*y+1) Aa;rw[<-d]at a;exact⟨x,λ_=>btw_at a c⟩;exact⟨0,λq=>absurd q c⟩
 exact⟨λi=>(this i).choose,λi=>(this i).choose_spec⟩
theorem Simp.mZ i(c:Md M p)(d:ray (u i,u (i+1)) p):((u i).2<p.2/\p.2< (u (i+1)).2)\/((u (i+1)).2<p.2/\p.2< (u i).2):=by
 have a:=h.mid i c;have b:=h.mid (i+1) c;unfold ray rayC at d;simp only at d;omega
theorem Simp.ray_f(k:Md M p){f:Nat->Int}(d:∀i,(((u i).2<p.2/\p.2< (u (i+1)).2)\/((u (i+1)).2<p.2/\p.2< (u i).2))->Btw (u i) (u (i+1)) (f i,p.2))(b:q.2=p.2) i:
 ray (u i,u (i+1)) q↔(((u i).2<p.2/\p.2< (u (i+1)).2)\/((u (i+1)).2<p.2/\p.2< (u i).2))/\q.1<f i:=by
 have c:Md M q:=by let⟨y,l⟩:=k;exact⟨y,by rw[b,l]⟩
 constructor
 ·intro g
  have a:=h.mZ i c g;rw[b]at a;refine⟨a,?_⟩;exact(ray_lt (e:=(u i,u (i+1))) (z:=(f i,p.2)) (d i a).onA b.symm Aj).1 g
 ·rintro⟨a,j⟩
  exact(ray_lt (e:=(u i,u (i+1))) (z:=(f i,p.2)) (d i a).onA b.symm Aj).2 j
theorem Simp.first(x:Md M p):(∀i,i<n->¬ray (u i,u (i+1)) p)\/∃i z,i<n/\(u i).2≠(u (i+1)).2/\Btw (u i) (u (i+1)) z/\z.2=p.2/\p.1<z.1/\
 (∀j,j<n->ray (u j,u (j+1)) p->j=i\/ray (u j,u (j+1)) z)/\wn u n p=wn u n z+sgE (u i,u (i+1)):=by
 by_cases c:∃i,i<n/\ray (u i,u (i+1)) p
 ·right
  let⟨f,v⟩:=h.cross x;let⟨i,hi,hr,l⟩:=argmin f n c;have r:=λq D=>h.ray_f x v (q:=q) D;let⟨E,B⟩:=(r p rfl i).1 hr;have s:=v i E
  have y:∀j,j<n->ray (u j,u (j+1)) p->j=i\/ray (u j,u (j+1)) (f i,p.2):=by
   intro j t m;by_cases e:j=i;exact .inl e;right;let⟨o,C⟩:=(r p rfl j).1 m;refine(r (f i,p.2) rfl j).2 ⟨o,?_⟩;have F:=l j t m;rcases U8 (f i) (f j)with q|q;exact q;exfalso;have A:f j=f i:=Aa;have d:=v j o;rw[A]at d;rcases Sj i j with c|c;exact h.uniq c t Aa Aa s d;exact h.uniq (show j<i from Aa) hi Aa Aa d s
  refine⟨i,(f i,p.2),hi,Aa,s,rfl,B,y,?_⟩;have H:wt (u i,u (i+1)) (f i,p.2)=0:=wt_on s.onA;have G:wt (u i,u (i+1)) p=sgE (u i,u (i+1)):=Hw;have:=sumI_one (n:=n) (g:=λi=>wt (u i,u (i+1)) p) (k:=λj=>wt (u j,u (j+1)) (f i,p.2)) hi (λj t w=>wt_eq ⟨λq=>?_,λq=>?_⟩)
  ·unfold wn
   omega
  ·rcases y j t q with q|q
   ·exact absurd q w
   ·exact q
  ·let⟨a,b⟩:=(r (f i,p.2) rfl j).1 q
   exact(r p rfl j).2 ⟨a,by simp only at b;omega⟩
 ·left
  exact λi hi hr=>c ⟨i,hi,hr⟩
theorem Simp.steep:∃i,i<n/\(u i).2≠(u (i+1)).2:=by
 have a:=h.n3;by_cases c:(u 0).2=(u 1).2;refine⟨1,Aa,λe=>h.tn 0 ?_⟩;unfold X dif;simp only;rw[show(u 2).2=(u 1).2 from e.symm,c];simp;exact⟨0,Aa,c⟩
theorem Simp.last(k:Md M p)(c:∃i,i<n/\(((u i).2<p.2/\p.2< (u (i+1)).2)\/((u (i+1)).2<p.2/\p.2< (u i).2))):
 ∃i z,i<n/\(u i).2≠(u (i+1)).2/\Btw (u i) (u (i+1)) z/\z.2=p.2/\(∀j,j<n->¬ray (u j,u (j+1)) z)/\wn u n z=0:=by
 let⟨f,g⟩:=h.cross k;let⟨i,hi,r,d⟩:=argmin (λi=>-f i) n c;have s:=λq m=>h.ray_f k g (q:=q) m
 have e:∀j,j<n->¬ray (u j,u (j+1)) (f i,p.2):=λj l o=>by
  let⟨a,b⟩:=(s (f i,p.2) rfl j).1 o;have:=d j l a;simp only at b;omega
 exact⟨i,(f i,p.2),hi,Aa,g i r,rfl,e,wn_none e⟩
theorem Simp.level:∃p,Md M p/\∃i,i<n/\(((u i).2<p.2/\p.2< (u (i+1)).2)\/((u (i+1)).2<p.2/\p.2< (u i).2)):=by
 let⟨i,hi,hne⟩:=h.steep;let⟨z,a,hz2⟩:=h.near i i (.inl rfl);refine⟨z,?_,i,hi,?_⟩;let⟨k,l,e⟩:=h.ev i;exact OC;have:=a.hts;omega
theorem Simp.vals:∃w,(w=0\/w=1)/\(∀i z,Btw (u i) (u (i+1)) z->wn u n z+cE (u i,u (i+1))=w)/\∀p,Md M p->wn u n p=0\/wn u n p=w\/wn u n p=w-1:=by
 let⟨w,f⟩:=h.lam;refine⟨w,?_,f,λp d=>?_⟩;let⟨p,d,c⟩:=h.level;let⟨i,z,hi,b,a,j,g,k⟩:=h.last d c;have:=f i z a;have:=cE_vals (u i,u (i+1));omega;rcases h.first d with c|⟨i,z,hi,b,a,j,l,m,e⟩;exact .inl (wn_none c);have:=f i z a;have:=cE_vals (u i,u (i+1));unfold sgE at e;simp only at e this;split at e<;>omega
end
structure Pair(u v:Nat->Vc):Prop where
 sp:∀i j,Sep (u i) (u (i+1)) (v j,v (j+1))
 nc:∀i j z,(u i).2≠(u (i+1)).2->(v j).2≠(v (j+1)).2->Btw (u i) (u (i+1)) z->Btw (v j) (v (j+1)) z->False
def ray_mono(a:q.2=p.2)(b:p.1<=q.1)(h:ray e q):ray e p:=by
 unfold ray rayC at*
 have k:X (dif e.2 e.1) (dif p e.1)=X (dif e.2 e.1) (dif q e.1)+(e.2.2-e.1.2)*(q.1-p.1):=by
  unfold X dif;simp only;rw[a];grind
 have s:=sgn (e.2.2-e.1.2) (q.1-p.1);rw[a]at h;rw[k];generalize X (dif e.2 e.1) (dif q e.1)=x at*;generalize (e.2.2-e.1.2)*(q.1-p.1)=y at*;omega
def wn_sep(hv:v m=v 0)(h:∀j,j<m->Sep p q (v j,v (j+1))):wn v m p=wn v m q:=by
 have key:∀{p q},p.2<=q.2->(∀j,j<m->Sep p q (v j,v (j+1)))->wn v m p=wn v m q:=by
  intro p q a h;have k:=sumI_tele m λi=>one (inRt p q (v i));rw[hv]at k
  have e:sumI m (λi=>wt (v i,v (i+1)) p)-sumI m (λi=>wt (v i,v (i+1)) q)=0:=by
   rw[<-sumI_sub];refine Eq.trans (sumI_congr λi hi=>wt_cell a (h i hi)) (k.trans ?_);omega
  unfold wn;omega
 rcases Int.le_total p.2 q.2 with c|c;exact key c h;exact(key c λj b=>dW0 (h j b)).symm
section
variable{u v:Nat->Vc}{n m:Nat}{M:Int}(hu:Simp u n M)(hv:Simp v m M)(hp:Pair u v)
include hv hp
theorem Pair.vert:∀i,wn v m (u i)=wn v m (u 0):=by
 intro i;induction i with
 |zero=>rfl
 |succ i a=>
  rw[<-a];exact(wn_sep hv.end0 λj _=>hp.sp i j).symm
include hu
theorem Pair.const(i:Nat){z:Vc}(b:Btw (u i) (u (i+1)) z):wn v m z=wn v m (u 0):=by
 rw[<-hp.vert hv (i+1)];obtain⟨N,k,e,f,c,d⟩:=b.out;have a:Frac (u i) (u (i+1)) z N k:=⟨Aa,c,d⟩;exact wn_sep hv.end0 λj _=>sep_two a (frac1 _ _) Aa Aa Ai Ai Aa (hp.sp i j)
theorem Pair.first{p:Vc}(A:Md M p):(wn u n p=0/\wn v m p=0)\/wn v m p=wn v m (u 0)\/(∃j z,Btw (v j) (v (j+1)) z/\wn u n p=wn u n z):=by
 have key:∀ {u v:Nat->Vc} {n m:Nat} {i:Nat} {z y:Vc} (j:Nat),Simp v m M->z.2=p.2->y.2=p.2->p.1<z.1->(v j).2≠(v (j+1)).2->Btw (v j) (v (j+1)) y->z.1<y.1->(∀k,k<m->ray (v k,v (k+1)) p->k=j\/ray (v k,v (k+1)) y)->wn v m p=wn v m z:=by
  intro u v n m i z y j hv H K F I D C G;refine wn_eq λk r=>⟨λf=>?_,λf=>ray_mono H Aa f⟩;rcases G k r f with rfl|f;have J:=D.hts;exact(ray_lt (e:=(v k,v (k+1))) (p:=z) (z:=y) D.onA Aa Aj).2 C;exact ray_mono Aa Aa f
 rcases hu.first A with c|⟨i,z,hi,t,b,q,x,B,_⟩;rcases hv.first A with d|⟨j,y,E,l,a,g,s,w,_⟩;exact .inl ⟨wn_none c,wn_none d⟩;right;right;refine⟨j,y,a,?_⟩;rw[wn_none c,wn_none λk r f=>c k r (ray_mono g Aa f)];rcases hv.first A with d|⟨j,y,E,l,a,g,s,w,_⟩;right;left;rw[<-hp.const hu hv i b,wn_none d,wn_none λk r f=>d k r (ray_mono q Aa f)];rcases Int.lt_trichotomy z.1 y.1 with c|c|c;right;left;rw[<-hp.const hu hv i b];exact key (u:=u) (n:=n) (i:=i) j hv q g x l a c w;exact absurd (hp.nc i j z t l b (by rw[show z=y from Prod.ext c (by omega)];exact a)) id;right;right;exact⟨j,y,a,key (u:=u) (n:=n) (i:=i) i hu g q s t b c B⟩
end
def Simp.mpt(h:Simp u n M):∃i z,i<n/\(u i).2≠(u (i+1)).2/\Btw (u i) (u (i+1)) z/\Md M z:=by
 let⟨i,hi,hne⟩:=h.steep;let⟨z,a,hz2⟩:=h.near i i (.inl rfl);refine⟨i,z,hi,hne,a,?_⟩;let⟨k,l,e⟩:=h.ev i;exact OC
structure Pos(u:Nat->Vc)(n:Nat)(M:Int):Prop where
 s:Simp u n M
 l:∀i z,Btw (u i) (u (i+1)) z->wn u n z+cE (u i,u (i+1))=1
 v:∀p,Md M p->wn u n p=0\/wn u n p=1
structure InP(h:Nat->Vc)(k:Nat)(o:Nat->Vc)(n:Nat):Prop where
 p:Pair h o
 q:Pair o h
 i:wn o n (h 0)% 2=1
 o:wn h k (o 0)% 2=0
structure BeP(h:Nat->Vc)(k:Nat)(o:Nat->Vc)(n:Nat):Prop where
 p:Pair h o
 q:Pair o h
 i:wn o n (h 0)% 2=0
 o:wn h k (o 0)% 2=0
section
variable{h o:Nat->Vc}{k n:Nat}{M:Int}(hh:Pos h k M)(ho:Pos o n M)
include hh ho
theorem Pair.val(hp:Pair h o):wn o n (h 0)=0\/wn o n (h 0)=1:=by
 obtain⟨i,z,hi,c,a,b⟩:=hh.s.mpt;rw[<-hp.const hh.s ho.s i a];exact ho.v z b
theorem InP.le(hi:InP h k o n){p:Vc}(hm:Md M p):wn h k p<=wn o n p/\(wn h k p=1->wn o n p=1):=by
 have d:=hi.p.val hh ho;have e:=hi.q.val ho hh;have a:wn o n (h 0)=1:=by have:=hi.i;omega
 have b:wn h k (o 0)=0:=by have:=hi.o;omega
 have f:=hh.v p hm;have g:=ho.v p hm;exact Pj
theorem BeP.ex(hi:BeP h k o n){p:Vc}(hm:Md M p):¬(wn h k p=1/\wn o n p=1):=by
 have d:=hi.p.val hh ho;have e:=hi.q.val ho hh;have a:wn o n (h 0)=0:=by have:=hi.i;omega
 have b:wn h k (o 0)=0:=by have:=hi.o;omega
 exact Pj
end
def Pos.rim{o:Nat->Vc}{n:Nat}{M:Int}(ho:Pos o n M):∃i z,i<n/\Md M z/\(o i).2≠(o (i+1)).2/\Btw (o i) (o (i+1)) z/\wn o n (z.1-1,z.2)=1/\∀(h:Nat->Vc) (k:Nat),Pos h k M->InP h k o n->wn h k (z.1-1,z.2)=0:=by
 obtain⟨p,hp,c⟩:=ho.s.level;obtain⟨i,z,hi,E,r,P,C,G⟩:=ho.s.last hp c;have B:Md M z:=by obtain⟨y,F⟩:=hp;exact⟨y,by rw[P,F]⟩
 have b:Md M (z.1-1,z.2):=by obtain⟨y,F⟩:=B;exact⟨y,F⟩
 have O:=r.hts;refine⟨i,z,hi,B,E,r,?_,λh k hh t=>?_⟩;have hr:ray (o i,o (i+1)) (z.1-1,z.2):=(ray_lt (e:=(o i,o (i+1))) (p:=(z.1-1,z.2)) (z:=z) r.onA rfl Aj).2 Aj;rcases ho.v _ b with c|c;exfalso;have L:=ho.l i z r;rw[G]at L;have K:=cE_vals (o i,o (i+1));have:=sumI_one (n:=n) (g:=λi=>wt (o i,o (i+1)) (z.1-1,z.2)) (k:=λj=>wt (o j,o (j+1)) z) hi (λj D N=>wt_eq ⟨λq=>?_,λq=>absurd q (C j D)⟩);have J:wt (o i,o (i+1)) z=0:=wt_on r.onA;have A:wt (o i,o (i+1)) (z.1-1,z.2)=sgE (o i,o (i+1)):=Hw;unfold wn at c G;unfold sgE at A;simp only at J A K this;split at A<;>omega;exfalso;obtain⟨f,x⟩:=ho.s.cross b;have w:=(ho.s.ray_f b x (q:=(z.1-1,z.2)) rfl j).1 q;have Q:¬z.1<f j:=λg=>C j D ((ho.s.ray_f b x (q:=z) rfl j).2 ⟨w.1,g⟩);simp only at w;have e:f j=z.1:=Aa;have a:=x j w.1;simp only at a;rw[e]at a;rcases Sj i j with d|d;exact ho.s.uniq d D E Aa r a;exact ho.s.uniq (show j<i from Aa) hi Aa E a r;exact c;have R:=t.q.val ho hh;have A:wn h k (o 0)=0:=by have:=t.o;omega
 have:=t.q.const ho.s hh.s i r;rw[A]at this;rw[<-this];obtain⟨f,x⟩:=hh.s.cross b;refine wn_eq λj D=>⟨λq=>?_,λq=>ray_mono (q:=z) rfl Aj q⟩;have w:=(hh.s.ray_f b x (q:=(z.1-1,z.2)) rfl j).1 q;refine(hh.s.ray_f b x (q:=z) rfl j).2 ⟨w.1,?_⟩;have H:=w.2;simp only at H;by_cases e:f j=z.1;exfalso;have a:=x j w.1;simp only at a;rw[e]at a;have I:=w.1;simp only at I;exact t.p.nc j i z Aa E a r;omega
def sumI_swap(f:Nat->Nat->Int) m:∀n,sumI n (λi=>sumI m (λj=>f i j))=sumI m (λj=>sumI n (λi=>f i j))
 |0=>by
  have:∀m,sumI m (λ_=>(0:Int))=0:=λm=>by
   induction m with
   |zero=>rfl
   |succ m a=>rw[sumI_succ,a];rfl
  rw[sumI_zero];exact(this m).symm
 |n+1=>by
  rw[sumI_succ,sumI_swap f m n,<-sumI_add];exact sumI_congr λj _=>(sumI_succ n (λi=>f i j)).symm
theorem sumI_mul c g:∀n,sumI n (λi=>c*g i)=c*sumI n g
 |0=>by rw[sumI_zero,sumI_zero,Int.mul_zero]
 |n+1=>by rw[sumI_succ,sumI_succ,sumI_mul c g n,Int.mul_add]
def sumI_const0(h:∀i,i<n->g i=0):sumI n g=0:=by
 induction n with
 |zero=>rfl
 |succ n a=>rw[sumI_succ,a (λi hi=>h i Aa),h n Aa];rfl
def sumI_lt y(a:0<=y):∀B,sumI B (λb=>one ((b:Int)<y))=min y B
 |0=>by rw[sumI_zero];omega
 |B+1=>by
  rw[sumI_succ,sumI_lt y a B];by_cases c:(B:Int)<y;rw[one_t c];omega;rw[one_f c];omega
def Btw.xs(h:Btw c d z):(c.1<=d.1->c.1<=z.1/\z.1<=d.1)/\(d.1<=c.1->d.1<=z.1/\z.1<=c.1):=by
 have k:Btw (c.2,c.1) (d.2,d.1) (z.2,z.1):=by
  let⟨N,k,a,b,e,f⟩:=h.out;exact⟨N,k,a,b,f,e⟩
 have:=k.hts;simp only at this;omega
def pt(M:Int)(A K:Nat)(a b:Nat):Vc:=((b:Int)-K,M*(2*((a:Int)-A)+1))
def pt_mid:Md M (pt M A K a b):=⟨(a:Int)-A,rfl⟩
def rowE(M:Int)(A K:Nat)(e:Sg)(a:Nat):Int:=sumI (2*K) λb=>wt e (pt M A K a b)
def totE(M:Int)(A K:Nat)(e:Sg):Int:=sumI (2*A) (rowE M A K e)
def totR(M:Int)(A K:Nat)(u:Nat->Vc)(n:Nat):Int:=sumI (2*A) λa=>sumI (2*K) λb=>wn u n (pt M A K a b)
theorem totR_edges M A K u n:totR M A K u n=sumI n λi=>totE M A K (u i,u (i+1)):=by
 unfold totR totE rowE wn;refine Eq.trans ?_ (sumI_swap (λi a=>sumI (2*K) λb=>wt (u i,u (i+1)) (pt M A K a b)) (2*A) n).symm;exact sumI_congr λa _=>(sumI_swap (λi b=>wt (u i,u (i+1)) (pt M A K a b)) (2*K) n).symm
theorem wt_rev c d p:wt (c,d) p=-wt (d,c) p:=by
 have k:X (dif c d) (dif p d)=-X (dif d c) (dif p c):=AQ;have a:=wt_vals (c,d) p;have b:=wt_vals (d,c) p;unfold ray rayC at a b;simp only at a b;rw[k]at b;generalize X (dif d c) (dif p c)=x at*;generalize wt (c,d) p=s at*;generalize wt (d,c) p=t at*;omega
theorem totE_rev M A K c d:totE M A K (c,d)=-totE M A K (d,c):=by
 have:totE M A K (c,d)+totE M A K (d,c)=0:=by
  unfold totE;rw[<-sumI_add];refine sumI_const0 λa _=>?_;unfold rowE;rw[<-sumI_add];refine sumI_const0 λb _=>?_;rw[wt_rev];omega
 omega
def totE_level(h:c.2=d.2):totE M A K (c,d)=0:=by
 have k:X (dif c d) (dif c d)=X (dif c d) (dif c d):=rfl;unfold totE rowE;refine sumI_const0 λa _=>sumI_const0 λb _=>?_;have:=wt_vals (c,d) (pt M A K a b);simp only at this;omega
def totE_up{A K:Nat}{c d:Vc}(J:0<M)(N:c.2=2*M*f)(P:d.2=2*M*g)(V:f<g)(T: -(A:Int)<=f)(U:g<=A)
 (O: -(K:Int)<=c.1/\c.1<=K)(Q: -(K:Int)<=d.1/\d.1<=K)(hv:∀h,∃x,X (dif d c) (dif (x,M*h) c)=0):2*totE M A K (c,d)=(g-f)*(c.1+d.1+2*K):=by
 have i:∀ {x y:Int},x<y->M*x<M*y:=λh=>Int.mul_lt_mul_of_pos_left h J;have l:c.2=M*(2*f):=by rw[N,<-Int.mul_assoc,Int.mul_comm M 2]
 have n:d.2=M*(2*g):=by rw[P,<-Int.mul_assoc,Int.mul_comm M 2]
 have row:∀a:Nat,if f<=(a:Int)-A/\(a:Int)-A<g then 2*(g-f)*(rowE M A K (c,d) a- (c.1+K))=(2*((a:Int)-A-f)+1)*(d.1-c.1)else rowE M A K (c,d) a=0:=by
  intro a;generalize R:(a:Int)-A=y;have u:∀b,(pt M A K a b).2=M*(2*y+1):=λb=>by unfold pt;rw[<-R]
  split;rename_i v;let⟨x,o⟩:=hv (2*y+1);have F:c.2<M*(2*y+1):=by rw[l];exact i (by omega)
  have G:M*(2*y+1)<d.2:=by rw[n];exact i (by omega)
  have L:=btw_at (z:=(x,M*(2*y+1))) o (.inl ⟨F,G⟩);have D:=L.xs;simp only at D
  have e:rowE M A K (c,d) a=x+K:=by
   have:rowE M A K (c,d) a=sumI (2*K) (λb=>one ((b:Int)<x+K)):=by
    unfold rowE;refine sumI_congr λb _=>?_;unfold wt sgE;rw[QU (show c.2<d.2 from Aa),Int.one_mul];refine one_c ?_;rw[ray_lt (e:=(c,d)) (p:=pt M A K a b) (z:=(x,M*(2*y+1))) o (u b).symm (by rw[u b];exact .inl ⟨F,G⟩)];unfold pt;simp only;omega
   rw[this,sumI_lt _ Aa];omega
  rw[e]
  have C:(d.1-c.1)*(M*(2*y+1)-c.2)=(d.2-c.2)*(x-c.1):=by
   unfold X dif at o;simp only at o;omega
  rw[l,n,<-Int.mul_sub,<-Int.mul_sub]at C;have:M*(2*(g-f)*(x+K- (c.1+K)))=M*((2*(y-f)+1)*(d.1-c.1)):=Bg;exact Int.eq_of_mul_eq_mul_left Aa this;rename_i v;unfold rowE;refine sumI_const0 λb _=>?_;have E:=wt_vals (c,d) (pt M A K a b);simp only at E;rw[u b]at E;have s:f<=y->M*(2*f)<M*(2*y+1):=λq=>i Aa;have W:y<f->M*(2*y+1)<c.2:=λq=>by rw[l];exact i (by omega)
  have Y:g<=y->d.2<M*(2*y+1):=λq=>by rw[n];exact i (by omega)
  have Z:c.2<d.2:=by rw[l,n];exact i (by omega)
  omega
 obtain⟨m,hm⟩:∃m,m=λ(B:Nat)=>max 0 (min ((B:Int)-A-f) (g-f)):=⟨_,rfl⟩
 have j:∀B,2*(g-f)*sumI B (rowE M A K (c,d))=m B*m B*(d.1-c.1)+2*(g-f)*(m B*(c.1+K)):=by
  intro B;induction B with
  |zero=>
   have:m 0=0:=DZ;rw[this,sumI_zero];simp
  |succ B S=>
   rw[sumI_succ,Int.mul_add,S];have r:=row B;split at r;rename_i v;have H:m B=(B:Int)-A-f:=DZ;have I:m (B+1)=(B:Int)-A-f+1:=DZ;rw[H,I];generalize (B:Int)-A-f=y at*;generalize rowE M A K (c,d) B=w at*;grind;rename_i v;have:m (B+1)=m B:=DZ;rw[this,r];omega
 have k:=j (2*A);have e:m (2*A)=g-f:=DZ;rw[e]at k
 have:(g-f)*(2*totE M A K (c,d))=(g-f)*((g-f)*(c.1+d.1+2*K)):=by
  show(g-f)*(2*sumI (2*A) (rowE M A K (c,d)))=_;generalize sumI (2*A) (rowE M A K (c,d))=t at*;grind
 exact Int.eq_of_mul_eq_mul_left Aa this
def arI(v:Nat->Vc)(n:Nat):Int:=sumI n λi=>X (v i) (v (i+1))
def big(M:Int)(v:Nat->Vc):Nat->Vc:=λi=>(2*M*(v i).1,2*M*(v i).2)
def totR_eq{A K:Nat}{v:Nat->Vc}(m:0<M)(hv:v n=v 0)(j:∀i,-(A:Int)<=(v i).2/\(v i).2<=A)(g:∀i,-(K:Int)<=2*M*(v i).1/\2*M*(v i).1<=K)
 (l:∀i h,(big M v i).2≠(big M v (i+1)).2->∃x,X (dif (big M v (i+1)) (big M v i)) (dif (x,M*h) (big M v i))=0):totR M A K (big M v) n=M*arI v n:=by
 have f:∀i,2*totE M A K (big M v i,big M v (i+1))=((v (i+1)).2- (v i).2)*(2*M*(v i).1+2*M*(v (i+1)).1+2*K):=by
  intro i;rcases Int.lt_trichotomy (v i).2 (v (i+1)).2 with c|c|c;refine totE_up m rfl rfl c (j i).1 (j (i+1)).2 (g i) (g (i+1)) λh=>l i h ?_;intro e;have:=Int.eq_of_mul_eq_mul_left (show 2*M≠0 from Aa) e;omega;rw[totE_level (show(big M v i).2=(big M v (i+1)).2 by unfold big;rw[c]),c,Int.sub_self,Int.zero_mul];rfl
  have k:=totE_up (A:=A) (K:=K) (c:=big M v (i+1)) (d:=big M v i) m rfl rfl c (j (i+1)).1 (j i).2 (g (i+1)) (g i) λh=>by
   let⟨x,g⟩:=l i h (λe=>by
    have:=Int.eq_of_mul_eq_mul_left (show 2*M≠0 from Aa) e;omega)
   refine⟨x,?_⟩;unfold X dif at*;simp only at*;grind
  rw[totE_rev];have q:(big M v i).1=2*M*(v i).1:=rfl;have r:(big M v (i+1)).1=2*M*(v (i+1)).1:=rfl;rw[q,r]at k;generalize totE M A K (big M v (i+1),big M v i)=t at*;generalize 2*M*(v i).1=a at*;generalize 2*M*(v (i+1)).1=b at*;grind
 have u:2*totR M A K (big M v) n=2*(M*arI v n):=by
  rw[totR_edges,<-sumI_mul,sumI_congr λi _=>f i];have o:=sumI_tele n λi=>2*M*((v i).1*(v i).2)+2*K*(v i).2;rw[hv]at o
  have s:sumI n (λi=>((v (i+1)).2- (v i).2)*(2*M*(v i).1+2*M*(v (i+1)).1+2*K))=
   sumI n (λi=>2*M*X (v i) (v (i+1))+((2*M*((v (i+1)).1*(v (i+1)).2)+2*K*(v (i+1)).2)- (2*M*((v i).1*(v i).2)+2*K*(v i).2))):=
   sumI_congr λi _=>by unfold X;grind
  rw[s,sumI_add,sumI_mul,o];unfold arI;grind
 omega
def sumI_le:∀ {n},(∀i,i<n->f i<=g i)->sumI n f<=sumI n g
 |0,_=>TB _
 |n+1,h=>by
  have:=sumI_le (n:=n) λi hi=>h i Aa;have:=h n Aa;rw[sumI_succ,sumI_succ];omega
def sumI_strict:∀ {n},(∀i,i<n->f i<=g i)->(∃i,i<n/\f i<g i)->sumI n f<sumI n g
 |0,_,⟨i,hi,_⟩=>Aa
 |n+1,h,⟨i,hi,b⟩=>by
  rw[sumI_succ,sumI_succ];have c:=h n Aa;by_cases e:i=n;subst e;have:=sumI_le (n:=i) λj a=>h j Aa;omega;have:=sumI_strict (n:=n) (λj a=>h j Aa) ⟨i,Aa,b⟩;omega
structure Fit(M:Int)(A K:Nat)(v:Nat->Vc)(n:Nat):Prop where
 m0:0<M
 per:v n=v 0
 y:∀i,-(A:Int)<=(v i).2/\(v i).2<=A
 x:∀i,-(K:Int)<2*M*(v i).1/\2*M*(v i).1<K
 dv:∀i h,(big M v i).2≠(big M v (i+1)).2->∃x,X (dif (big M v (i+1)) (big M v i)) (dif (x,M*h) (big M v i))=0
theorem Fit.tot(h:Fit M A K v n):totR M A K (big M v) n=M*arI v n:=
 totR_eq h.m0 h.per h.y (λi=>⟨by have:=(h.x i).1;omega,by have:=(h.x i).2;omega⟩) h.dv
def pos_of(d:Fit M A K v n)(e:Simp (big M v) n M)(g:0<arI v n):Pos (big M v) n M:=by
 let⟨w,j,h,hv⟩:=e.vals
 have c:w=1:=by
  rcases j with rfl|rfl;exfalso
  have f:totR M A K (big M v) n<=sumI (2*A) (λ_=>sumI (2*K) λ_=>0):=by
   refine sumI_le λa _=>sumI_le λb _=>?_;have:=hv (pt M A K a b) pt_mid;omega
  rw[sumI_const0 (λa _=>sumI_const0 λb _=>rfl),d.tot]at f;have:=Int.mul_pos d.m0 g;omega;rfl
 subst c;exact⟨e,h,λp i=>by have:=hv p i;omega⟩
abbrev Lp:=(Nat->Vc)×Nat
def wnL(M:Int)(p:Vc)(h:Lp):Int:=wn (big M h.1) h.2 p
def wnL_sum(i:Md M p):∀ {L:List Lp},(∀h∈L,Pos (big M h.1) h.2 M)->L.Pairwise (λh k=>BeP (big M h.1) h.2 (big M k.1) k.2)->((L.map (wnL M p)).sum=0/\∀h∈L,wnL M p h=0)\/((L.map (wnL M p)).sum=1/\∃h∈L,wnL M p h=1)
 | [],_,_=> .inl ⟨rfl,λh d=>by cases d⟩
 |h::L,f,g=>by
  rw[S9]at g;have l:=wnL_sum i (L:=L) (λk a=>f k (RZ _ a)) g.2;have d:=f h (SQ ..);have hv:=d.v p i;rw[Rt,Sv];rcases hv with c|c;have e:wnL M p h=0:=c;rcases l with⟨j,b⟩|⟨j,k,a,b⟩;refine .inl ⟨Aa,λk a=>?_⟩;rcases Rl.1 a with rfl|a;exact e;exact b k a;exact .inr ⟨Aa,k,RZ _ a,b⟩;have e:wnL M p h=1:=c;rcases l with⟨j,b⟩|⟨j,k,a,b⟩;exact .inr ⟨Aa,h,SQ ..,e⟩;exact absurd ⟨c,b⟩ ((g.1 k a).ex d (f k (RZ _ a)) i)
def holes_less{L:List Lp}(j:Fit M A K v n)(u:Pos (big M v) n M)(d:∀h∈L,Fit M A K h.1 h.2/\Pos (big M h.1) h.2 M/\InP (big M h.1) h.2 (big M v) n)
 (H:L.Pairwise (λh k=>BeP (big M h.1) h.2 (big M k.1) k.2)):(L.map λh=>arI h.1 h.2).sum<arI v n:=by
 have hM:=j.m0
 have swap:∀L:List Lp,(L.map λh=>totR M A K (big M h.1) h.2).sum=sumI (2*A) λa=>sumI (2*K) λb=>(L.map (wnL M (pt M A K a b))).sum:=by
  intro L;induction L with
  |nil=>exact(sumI_const0 λa _=>sumI_const0 λb _=>rfl).symm
  |cons h L m=>
   rw[Rt,Sv,m];unfold totR;rw[<-sumI_add];refine sumI_congr λa _=>?_;rw[<-sumI_add];exact sumI_congr λb _=>by rw[Rt,Sv];rfl
 have o:∀L:List Lp,(∀h∈L,Fit M A K h.1 h.2)->(L.map λh=>totR M A K (big M h.1) h.2).sum=M*(L.map λh=>arI h.1 h.2).sum:=by
  intro L;induction L with
  |nil=>intro _;simp
  |cons h L m=>
   intro d;rw[Rt,Sv,m (λk t=>d k (RZ _ t)),Rt,Sv,(d h (SQ ..)).tot,Int.mul_add]
 have E:∀p,Md M p->(L.map (wnL M p)).sum<=wn (big M v) n p:=by
  intro p w;have hv:=u.v p w;rcases wnL_sum w (λh f=>(d h f).2.1) H with⟨V,_⟩|⟨V,h,f,W⟩;omega;have:=((d h f).2.2.le (d h f).2.1 u w).2 W;omega
 have key:(L.map λh=>totR M A K (big M h.1) h.2).sum<totR M A K (big M v) n:=by
  rw[swap];unfold totR;let⟨i,z,hi,S,T,I,P,Q⟩:=u.rim
  have B:∃a b,a<2*A/\b<2*K/\pt M A K a b=(z.1-1,z.2):=by
   let⟨y,D⟩:=S;have C:=I.xs;have l:=I.hts;have Y:=j.x i;have Z:=j.x (i+1);have b3:=j.y i;have b4:=j.y (i+1);have N:(big M v i).1=2*M*(v i).1:=rfl;have O:(big M v (i+1)).1=2*M*(v (i+1)).1:=rfl;have F:(big M v i).2=M*(2*(v i).2):=by show 2*M*(v i).2=_;rw[<-Int.mul_assoc,Int.mul_comm M 2]
   have G:(big M v (i+1)).2=M*(2*(v (i+1)).2):=by show 2*M*(v (i+1)).2=_;rw[<-Int.mul_assoc,Int.mul_comm M 2]
   have r:∀ {x y:Int},M*x<M*y->x<y:=λh=>Int.lt_of_mul_lt_mul_left h Aa
   have U: -(A:Int)<=y/\y<A:=by
    rcases Int.lt_or_gt_of_ne T with c|c;have q:=l.1 c;rw[F,D]at q;have X:=r q.1;have g:=q.2;rw[G]at g;have g:=r g;omega;have q:=l.2.1 c;rw[G,D]at q;have X:=r q.1;have g:=q.2;rw[F]at g;have g:=r g;omega
   rw[N,O]at C;refine⟨(y+A).toNat,(z.1-1+K).toNat,Aa,Aa,?_⟩;unfold pt;refine Prod.ext ?_ ?_;simp only;omega;simp only;rw[D,Int.toNat_of_nonneg Aa,Int.add_sub_cancel]
  let⟨a,b,R,s,e⟩:=B;refine sumI_strict (λa _=>sumI_le λb _=>E _ pt_mid) ⟨a,R,sumI_strict (λb _=>E _ pt_mid) ⟨b,s,?_⟩⟩;rw[e,P]
  have:(L.map (wnL M (z.1-1,z.2))).sum=0:=by
   have J:∀h∈L,wnL M (z.1-1,z.2) h=0:=λh f=>Q (big M h.1) h.2 (d h f).2.1 (d h f).2.2;clear swap o E H d;induction L with
   |nil=>rfl
   |cons h L m=>
    rw[Rt,Sv,J h (SQ ..),m λk t=>J k (RZ _ t)];rfl
  omega
 rw[o L (λh f=>(d h f).1),j.tot]at key;exact Int.lt_of_mul_lt_mul_left key Aa
def vr(r:Rg):Nat->Vc:=λi=>r.getD (i% r.length) z0
def mult_ex:∀n:Nat,∃M,0<M/\∀d,d≠0->-(n:Int)<=d->d<=n->∃q,M=d*q
 |0=>⟨1,Ai,λd a g i=>Aa⟩
 |n+1=>by
  let⟨M,f,h⟩:=mult_ex n;refine⟨M*((n:Int)+1),Int.mul_pos f Aa,λd a g i=>?_⟩;by_cases c: -(n:Int)<=d/\d<=n;let⟨q,e⟩:=h d a c.1 c.2;exact⟨q*((n:Int)+1),by rw[e,Int.mul_assoc]⟩;by_cases b:d=(n:Int)+1;exact⟨M,by rw[b,Int.mul_comm]⟩;have:d= -((n:Int)+1):=by omega
  exact⟨-M,by rw[this,Int.neg_mul_neg,Int.mul_comm]⟩
theorem mulV_big M v i:big M v i=mulV (2*M) (v i):=rfl
section
variable{r:Rg}(h:dM r)
include h
theorem vr_mem i:vr r i∈r:=by
 have a:=h.1;unfold vr;rw[Sz,QX (SC _ Aa)];exact TL _
theorem vr_near i: -2000<=(vr r i).1/\(vr r i).1<=2000/\-2000<=(vr r i).2/\(vr r i).2<=2000:=by
 have:=h.2.2.1 _ (vr_mem h i);unfold within at this;rw[w_in Aa]at this;omega
omit h in
theorem vr_per i:vr r (i+r.length)=vr r i:=by unfold vr;rw[Nat.add_mod_right]
theorem vr_edge i:(vr r i,vr r (i+1))∈bF r:=by
 have a:=h.1;refine(bC9 h.1).2 ⟨i% r.length,SC _ Aa,?_⟩;unfold aJ4 iU vr;rw[Nat.mod_add_mod]
theorem vr_turn i:X (dif (vr r (i+2)) (vr r (i+1))) (dif (vr r i) (vr r (i+1)))≠0:=by
 have d:=h.1;have c:(i+1)% r.length<r.length:=SC _ Aa;have k:=h.2.2.2.2.1 _ c
 have a:mY r ((i+1)% r.length)=vr r i:=by
  unfold mY vr;congr 1;rw[show(i+1)% r.length+r.length-1=(i+1)% r.length+(r.length-1) from Aa,Nat.mod_add_mod,show i+1+(r.length-1)=i+r.length from Aa,Nat.add_mod_right]
 have b:iU r ((i+1)% r.length)=vr r (i+2):=by
  unfold iU vr;rw[Nat.mod_add_mod]
 rw[a,b,show r.getD ((i+1)% r.length) z0=vr r (i+1)from rfl,zH (vN h.2.2.1 (vr_mem h _)) (vN h.2.2.1 (vr_mem h _)) (vN h.2.2.1 (vr_mem h _))]at k;intro q;refine k ?_;have:X (dif (vr r (i+1)) (vr r i)) (dif (vr r (i+2)) (vr r i))=X (dif (vr r (i+2)) (vr r (i+1))) (dif (vr r i) (vr r (i+1))):=AQ;rw[this,q];rfl
theorem vr_apart i j(n:i+2<=j)(o:j+2<=i+r.length):dG (vr r i,vr r (i+1)) (vr r j,vr r (j+1))=0:=by
 have q:=h.1
 have b:∀i,(bF r).getD (i% r.length) (z0,z0)=(vr r i,vr r (i+1)):=by
  intro i;have g:i% r.length<r.length:=SC _ Aa;unfold bF;rw[Q9 Aa,Sz,RN,List.getElem?_range g];show aJ4 r (i% r.length)=_;unfold aJ4 iU vr;rw[Nat.mod_add_mod]
 have key:∀i j,i% r.length<j% r.length->¬j% r.length=i% r.length+1->¬(i% r.length=0/\j% r.length=r.length-1)->dG (vr r i,vr r (i+1)) (vr r j,vr r (j+1))=0:=by
  intro i j k l s;have:=h.2.2.2.2.2 (i% r.length) (j% r.length) k (SC _ Aa) l Aa;rwa [b,b]at this
 have hi:i% r.length<r.length:=SC _ Aa;have m:=Nat.div_add_mod i r.length;obtain⟨d,f⟩:∃d,j=i+d:=⟨j-i,Aa⟩;have a:j% r.length=(i% r.length+d)% r.length:=by rw[f,Nat.mod_add_mod]
 by_cases c:i% r.length+d<r.length;rw[Nat.mod_eq_of_lt c]at a;refine key i j Aa Aa Aa
 have e:j% r.length=i% r.length+d-r.length:=by
  rw[a,Nat.mod_eq_sub_mod Aa,Nat.mod_eq_of_lt Aa]
 refine dS2 (jO h.2.2.1 (vr_edge h j)) (jO h.2.2.1 (vr_edge h i)) (key j i Aa Aa Aa)
end
theorem Xbig M a b c d:X (dif (mulV M a) (mulV M b)) (dif (mulV M c) (mulV M d))=M*M*X (dif a b) (dif c d):=cG9 M a b c d
def ap_of(d:0<M)(n:bI f)(o:bI g)(e:f.1≠f.2)(s:dG f g=0):Ap (mulS M f) (mulS M g):=by
 have u:=rC n o e s;refine⟨eQ5 d u,?_⟩;intro k l y ⟨v,w⟩;have C:=Int.mul_pos d d
 have z:∀x:Int,M*M*x=0->x=0:=λx i=>by
  rcases Int.mul_eq_zero.1 i with q|q;omega;exact q
 have a:=z _ (by rw[<-cG9];exact k);have b:=z _ (by rw[<-cG9];exact l);have m:=Int.mul_ediv_add_emod y M;have A:=Int.emod_nonneg y (show M≠0 from Aa);have B:=Int.emod_lt_of_pos y d;obtain⟨t,E⟩:∃t,t=y/M:=⟨_,rfl⟩;rw[<-E]at m
 have lo:∀x:Int,M*x<y->x<=t:=λx i=>by
  rcases U8 t x with q|q;have:=Int.mul_le_mul_of_nonneg_left (show t+1<=x from Aa) (show 0<=M from Aa);rw[Int.mul_add,Int.mul_one]at this;omega;exact q
 have hi:∀x:Int,y<M*x->t<x:=λx i=>by
  rcases U8 t x with q|q;exact q;have:=Int.mul_le_mul_of_nonneg_left q (show 0<=M from Aa);omega
 have j:mZ f t:=by
  rcases v with q|q;exact .inl ⟨lo _ q.1,hi _ q.2⟩;exact .inr ⟨lo _ q.1,hi _ q.2⟩
 have c:mZ g t:=by
  rcases w with q|q;exact .inl ⟨lo _ q.1,hi _ q.2⟩;exact .inr ⟨lo _ q.1,hi _ q.2⟩
 refine fB7 n o j c s ?_;have D:f.1.2≠f.2.2:=by unfold mZ at j;omega
 clear v w k l u z lo hi m A B j c;unfold X dif at a b;simp only at a b;unfold pX pN pK;split<;>split<;>grind
def fit_of{r:Rg}(h:dM r){M:Int}{K:Nat}(hM:0<M)(hd:∀d:Int,d≠0->-4000<=d->d<=4000->∃q,M=d*q)(hK:2*M*2000<K):Fit M 2000 K (vr r) r.length where
 m0:=hM
 per:=by have:= @vr_per r 0;rw[SX]at this;exact this
 y:=λi=>by have:=vr_near h i;omega
 x:=λi=>by
  have k:=vr_near h i;have a1:=Int.mul_le_mul_of_nonneg_left k.1 (show 0<=2*M from Aa);have a2:=Int.mul_le_mul_of_nonneg_left k.2.1 (show 0<=2*M from Aa);omega
 dv:=λi y hne=>by
  have k1:=vr_near h i;have k2:=vr_near h (i+1);have hne':(vr r (i+1)).2- (vr r i).2≠0:=λq=>hne (by unfold big;simp only;rw[show(vr r (i+1)).2=(vr r i).2 by omega]);obtain⟨q,hq⟩:=hd _ hne' Aa Aa;refine⟨2*M*(vr r i).1+((vr r (i+1)).1- (vr r i).1)*q*(y-2*(vr r i).2),?_⟩;unfold big X dif;simp only;generalize vr r i=a at*;generalize vr r (i+1)=b at*;obtain⟨a1,a2⟩:=a;obtain⟨b1,b2⟩:=b;simp only at*;have:(2*M*b1-2*M*a1)*(M*y-2*M*a2)- (2*M*b2-2*M*a2)*(2*M*a1+(b1-a1)*q*(y-2*a2)-2*M*a1)=2*M*((b1-a1)*(y-2*a2))*(M- (b2-a2)*q):=Bg;rw[this,hq];grind
def simp_of{r:Rg}(h:dM r){M:Int}{K:Nat}(hM:0<M)(hd:∀d:Int,d≠0->-4000<=d->d<=4000->∃q,M=d*q)(hK:2*M*2000<K):Simp (big M (vr r)) r.length M where
 n3:=h.1
 per:=λi=>by unfold big;rw[@vr_per r]
 m0:=hM
 ev:=λi=>⟨_,_,rfl⟩
 tn:=λi=>by
  rw[mulV_big,mulV_big,mulV_big,Xbig];intro q;rcases Int.mul_eq_zero.1 q with q|q;rcases Int.mul_eq_zero.1 q with q|q<;>omega;exact vr_turn h i q
 sp:=λi j h1 h2=>ap_of (f:=(vr r i,vr r (i+1))) (g:=(vr r j,vr r (j+1))) Aa (jO h.2.2.1 (vr_edge h i)) (jO h.2.2.1 (vr_edge h j)) (aG8 h (vr_edge h i)) (vr_apart h i j h1 h2)
 dv:=λi y hne=>(fit_of h hM hd hK).dv i y hne
def pair_of(h:Apart a b)(l:0<M):Pair (big M (vr a)) (big M (vr b)):=by
 have ap:∀i j,Ap (big M (vr a) i,big M (vr a) (i+1)) (big M (vr b) j,big M (vr b) (j+1)):=λi j=>
  ap_of (f:=(vr a i,vr a (i+1))) (g:=(vr b j,vr b (j+1))) Aa (jO h.oa.2.2.1 (vr_edge h.oa i)) (jO h.ob.2.2.1 (vr_edge h.ob j)) (aG8 h.oa (vr_edge h.oa i)) (h.ap _ (vr_edge h.oa i) _ (vr_edge h.ob j))
 exact⟨λi j=>(ap i j).1,λi j z e k c d=>(ap i j).no e k c d⟩
theorem wn_par u p:∀n,decB (wn u n p% 2=1)=par p ((List.range n).map λi=>(u i,u (i+1)))
 |0=>by
  rw[dW.2 (show¬wn u 0 p% 2=1 by unfold wn;rw[sumI_zero];omega)];rfl
 |n+1=>by
  have a:=wn_par u p n;have e:wn u (n+1) p=wn u n p+wt (u n,u (n+1)) p:=sumI_succ _ _;rw[UF,RH];unfold par at*;rw[cY7,<-a,e];show _=(_^^(decB (ray (u n,u (n+1)) p)^^false));rw[Bool.xor_false];have hw:=wt_vals (u n,u (n+1)) p;by_cases c:wn u n p% 2=1;rw[dH.2 c];by_cases d:ray (u n,u (n+1)) p;rw[dH.2 d];exact dW.2 Em;rw[dW.2 d];exact dH.2 En;rw[dW.2 c];by_cases d:ray (u n,u (n+1)) p;rw[dH.2 d];exact dH.2 Em;rw[dW.2 d];exact dW.2 En
def edges_vr(h:dM r):bF r=(List.range r.length).map λi=>(vr r i,vr r (i+1)):=by
 rw[vV h.1];rfl
def wn_big(h:dM r)(a:0<M) p:decB (wn (big M (vr r)) r.length (mulV (2*M) p)% 2=1)=par p (bF r):=by
 rw[wn_par,<-dD0 (N:=2*M) Aa p (bF r),edges_vr h,TI];rfl
def odd_in(h:Apart a b)(hin:pR a b 2)(hM:0<M):InP (big M (vr a)) a.length (big M (vr b)) b.length where
 p:=pair_of h hM
 q:=pair_of h.symm hM
 i:=by
  have e:=wn_big h.ob hM (vr a 0);rw[((zD h.ob (vN h.oa.2.2.1 (vr_mem h.oa 0))).1 (hin _ (vr_mem h.oa 0))).2]at e;exact dH.1 e
 o:=by
  have e:=wn_big h.oa hM (vr b 0);rw[h.outer hin _ (vr_mem h.ob 0)]at e;exact Qk
def even_out(h:Apart a b)(h1:pR a b 0)(h2:pR b a 0)(hM:0<M):BeP (big M (vr a)) a.length (big M (vr b)) b.length where
 p:=pair_of h hM
 q:=pair_of h.symm hM
 i:=by
  have e:=wn_big h.ob hM (vr a 0);rw[((aE8 h.ob (vN h.oa.2.2.1 (vr_mem h.oa 0))).1 (h1 _ (vr_mem h.oa 0))).2]at e;have:=dW.1 e;have k:big M (vr a) 0=mulV (2*M) (vr a 0):=rfl;rw[k];omega
 o:=by
  have e:=wn_big h.oa hM (vr b 0);rw[((aE8 h.oa (vN h.ob.2.2.1 (vr_mem h.ob 0))).1 (h2 _ (vr_mem h.ob 0))).2]at e;exact Qk
def arI_eq(h:dM r):arI (vr r) r.length=zY r:=by
 have u:=h.1;have i:=h.2.1
 have key:∀n,n<=r.length->cI8 r n=arI (vr r) n/\-(8000000*(n:Int))<=arI (vr r) n/\arI (vr r) n<=8000000*(n:Int):=by
  intro n;induction n with
  |zero=>intro _;exact⟨rfl,by unfold arI;rw[sumI_zero];omega,by unfold arI;rw[sumI_zero];omega⟩
  |succ n k=>
   intro v;let⟨j,A,B⟩:=k Aa;have e:r.getD n z0=vr r n:=by unfold vr;rw[Nat.mod_eq_of_lt (by omega)]
   have f:iU r n=vr r (n+1):=rfl;have d:arI (vr r) (n+1)=arI (vr r) n+X (vr r n) (vr r (n+1)):=sumI_succ _ _;have a:=vr_near h n;have c:=vr_near h (n+1)
   have b:∀x y,-2000<=x/\x<=2000->-2000<=y/\y<=2000->-4000000<=x*y/\x*y<=4000000:=by
    intro x y w z;have l:=Int.mul_nonneg (show 0<=x+2000 from Aa) (show 0<=y+2000 from Aa);have m:=Int.mul_nonneg (show 0<=2000-x from Aa) (show 0<=2000-y from Aa);have o:=Int.mul_nonneg (show 0<=x+2000 from Aa) (show 0<=2000-y from Aa);have q:=Int.mul_nonneg (show 0<=2000-x from Aa) (show 0<=y+2000 from Aa);rw[Int.mul_add,Int.add_mul,Int.add_mul]at l;rw[Int.mul_sub,Int.sub_mul,Int.sub_mul]at m;rw[Int.mul_sub,Int.add_mul,Int.add_mul]at o;rw[Int.mul_add,Int.sub_mul,Int.sub_mul]at q;omega
   have s:=b _ _ ⟨a.1,a.2.1⟩ c.2.2;have t:=b _ _ a.2.2 ⟨c.1,c.2.1⟩;rw[bC2,e,f,j]
   have g:bZ (vr r n) (vr r (n+1))=X (vr r n) (vr r (n+1)):=by
    unfold bZ X;rw[w_in (n:=(vr r n).1*(vr r (n+1)).2) Aa,w_in (n:=(vr r n).2*(vr r (n+1)).1) Aa,w_in Aa]
   have bx:X (vr r n) (vr r (n+1))=(vr r n).1*(vr r (n+1)).2- (vr r n).2*(vr r (n+1)).1:=rfl;rw[g,<-d];rw[d];refine⟨w_in Aa,Aa,Aa⟩
 exact(key r.length (Rf _)).1.symm
def holes_area(d:bG s):(s.holes.map zY).sum<zY s.outer:=by
 let⟨M,a,c⟩:=mult_ex 4000;obtain⟨K,hK⟩:∃K:Nat,2*M*2000<K:=⟨(2*M*2000+1).toNat,Aa⟩;have g:dM s.outer:=d.2.1 _ AU;have e:∀r∈s.holes,dM r:=λr hr=>d.2.1 r BU;have b:∀r,dM r->Pos (big M (vr r)) r.length M:=λr hr=>pos_of (fit_of hr a c hK) (simp_of hr a c hK) (by rw[arI_eq hr];exact hr.2.2.2.1);have k:=holes_less (L:=s.holes.map λr=>(vr r,r.length)) (fit_of g a c hK) (b _ g) (λh o=>?_) ?_;rw[TI,arI_eq g]at k;rw[show s.holes.map zY=s.holes.map ((λh=>arI h.1 h.2)∘λr=>(vr r,r.length))from Ti λr hr=>(arI_eq (e r hr)).symm];exact k;obtain⟨r,hr,rfl⟩:=Rn.1 o;let⟨l,m⟩:=bK4 d hr;exact⟨fit_of (e r hr) a c hK,b _ (e r hr),odd_in l m a⟩;rw[List.pairwise_map,List.pairwise_iff_getElem];intro i j hi n f;let⟨l,m,q⟩:=cS9 d f (QX hi) (QX n);exact even_out l.symm q m a
def area_pos(b:bG s):1<=uK s:=by
 have g:=holes_area b;have i:∀r∈s.holes,dM r:=λr hr=>b.2.1 r BU;rw[fV7 b];have f:=nT (zY s.outer);rw[gI8]at f;generalize zY s.outer=a at*
 have key:∀(l:List Rg) a ,-9223372036854775808<=a->a<=9223372036854775807->(∀r∈l,dM r)->(l.map zY).sum<a->1<=l.foldl (λa r=>W (a-zY r)) a:=by
  intro l;induction l with
  |nil=>intro a _ _ _ h;have j:0<a:=by simpa using h
        show 1<=a;omega
  |cons x l e=>
   intro a k m d b;rw[Rt,Sv]at b;have o:=(d x (SQ ..)).2.2.2.1
   have n:0<=(l.map zY).sum:=by
    clear e b;have c:=λr hr=>d r (RZ _ hr);clear d;induction l with
    |nil=>exact TB _
    |cons y l e=>
     have:=(c y (SQ ..)).2.2.2.1;have:=e λr hr=>c r (RZ _ hr);rw[Rt,Sv];omega
   rw[RV,w_in Aa];exact e _ Aa Aa (λr hr=>d r (RZ _ hr)) Aa
 exact key _ _ f.1 f.2 i g
end Go.Proofs.Led
