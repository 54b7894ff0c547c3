/- Lemmas. -/
import Derived.Test.YtcmgfjaiegpddaaGreatB27
set_option linter.all false
set_option maxRecDepth 100000
set_option maxHeartbeats 8000000
noncomputable section
namespace Go.Proofs.Led
open Go Go.Proofs Go.Ab
theorem eW1{c d v:Vc}(a:c≠d)(b:Bb (c,d) v)(e:X (dif d c) (dif v c)=0):∃N k,Onp N k c d v:=by
 unfold Bb at b;unfold X dif at e;simp only at b e;by_cases f:c.1=d.1;have j:c.2≠d.2:=λh=>a (Prod.ext f h);have i:v.1=c.1:=Aa;by_cases g:c.2<d.2;exact⟨d.2-c.2,v.2-c.2,Aa,Aa,Aa,Du,Int.mul_comm _ _⟩;exact⟨c.2-d.2,c.2-v.2,Aa,Aa,Aa,Du,BK⟩;by_cases g:c.1<d.1;exact⟨d.1-c.1,v.1-c.1,Aa,Aa,Aa,Int.mul_comm _ _,BK⟩;exact⟨c.1-d.1,c.1-v.1,Aa,Aa,Aa,BK,BK⟩
def cX7{s:Sg}(b:bI s)(a:s.1≠s.2){v:Vc}(h:eX s v):∃N k,Onp N k s.1 s.2 v:=by
 grind [gZ,eW1]
def eP6{s t:Sg}(hs:bI s)(ht:bI t)(c:s.1≠s.2)(j:t.1≠t.2)(hd:xD s t=0)(b:xB s t=0){v:Vc}(hv:Com s t v):∃p,uH s t p/\Com s t p:=by
 obtain⟨g,i,k,l⟩:=vK s t;have hw:=bZ7 c;have la:onL (dif s.2 s.1) s.1 s.1:=by unfold onL X dif;simp
 have lb:onL (dif s.2 s.1) s.1 s.2:=En;have lc:onL (dif s.2 s.1) s.1 t.1:=by unfold onL;rw[g,b];rfl
 have ld:onL (dif s.2 s.1) s.1 t.2:=by unfold onL;rw[i,b,hd];rfl
 have f:onL (dif s.2 s.1) s.1 v:=((gZ hs).1 hv.1).2;have lt':∀p,onL (dif s.2 s.1) s.1 p->X (dif t.2 t.1) (dif p t.1)=0:=λp hp=>Jk
 have a:∀p,onL (dif s.2 s.1) s.1 p->(Com s t p↔(min (co (dif s.2 s.1) s.1) (co (dif s.2 s.1) s.2)<=co (dif s.2 s.1) p/\co (dif s.2 s.1) p<=max (co (dif s.2 s.1) s.1) (co (dif s.2 s.1) s.2))/\
  (min (co (dif s.2 s.1) t.1) (co (dif s.2 s.1) t.2)<=co (dif s.2 s.1) p/\co (dif s.2 s.1) p<=max (co (dif s.2 s.1) t.1) (co (dif s.2 s.1) t.2))):=λp hp=>by
  exact MK
 have d:=(a v f).1 hv;generalize co (dif s.2 s.1) v=y at*;rcases(show(co (dif s.2 s.1) s.1=max (min (co (dif s.2 s.1) s.1) (co (dif s.2 s.1) s.2)) (min (co (dif s.2 s.1) t.1) (co (dif s.2 s.1) t.2)))\/(co (dif s.2 s.1) s.2=max (min (co (dif s.2 s.1) s.1) (co (dif s.2 s.1) s.2)) (min (co (dif s.2 s.1) t.1) (co (dif s.2 s.1) t.2)))\/(co (dif s.2 s.1) t.1=max (min (co (dif s.2 s.1) s.1) (co (dif s.2 s.1) s.2)) (min (co (dif s.2 s.1) t.1) (co (dif s.2 s.1) t.2)))\/(co (dif s.2 s.1) t.2=max (min (co (dif s.2 s.1) s.1) (co (dif s.2 s.1) s.2)) (min (co (dif s.2 s.1) t.1) (co (dif s.2 s.1) t.2))) from Aa)with h|h|h|h;exact⟨s.1, .inl rfl,(a _ la).2 Aa⟩;exact⟨s.2, .inr (.inl rfl),(a _ lb).2 Aa⟩;exact⟨t.1, .inr (.inr (.inl rfl)),(a _ lc).2 Aa⟩;exact⟨t.2, .inr (.inr (.inr rfl)),(a _ ld).2 Aa⟩
def eK6{N k:Int}{c d v:Vc}(h:Onp N k c d v)(u w:Vc):(0<X u (dif c w)->0<X u (dif d w)->0<X u (dif v w))/\(X u (dif c w)<0->X u (dif d w)<0->X u (dif v w)<0):=by
 obtain⟨a,b,f,g,i⟩:=h;have e:N*X u (dif v w)=(N-k)*X u (dif c w)+k*X u (dif d w):=BM;have j:=sgn N (X u (dif v w));have l:=sgn (N-k) (X u (dif c w));have m:=sgn k (X u (dif d w));grind
theorem eZ7{s t:Sg}(c:bI s)(d:bI t)(e:s.1≠s.2)(f:t.1≠t.2)(n:dG s t=0){v:Vc}(a:eX s v)(b:eX t v):False:=by
 obtain⟨N,k,l⟩:=cX7 c e a;obtain⟨M,j,m⟩:=cX7 d f b;have x:=((gZ c).1 a).2;have y:=((gZ d).1 b).2;have g:=eK6 m (dif s.2 s.1) s.1;have i:=eK6 l (dif t.2 t.1) t.1;rcases rC c d e n with q|q|q|q|q;have:=g.1 q.1 q.2;omega;have:=g.2 q.1 q.2;omega;have:=i.1 q.1 q.2;omega;have:=i.2 q.1 q.2;omega;obtain⟨o,r,u,w⟩:=vK s t;have:=(tells c d).touch.1 (eP6 c d e f Aa Aa ⟨a,b⟩);omega
def dM4{s t:Sg}:dG s t=0\/dG s t=1\/dG s t=2\/dG s t=3:=by
 unfold dG kQ;split;exact .inl rfl;split;unfold lines;simp only;split;exact .inl rfl;grind [aH6];split;exact .inr (.inl rfl);split;exact .inr (.inl rfl);split;exact .inl rfl;unfold yD;split;exact .inr (.inl rfl);split;exact .inr (.inr (.inr rfl));exact .inl rfl
def eD0{s t:Sg}{p:Vc}:uH s t p/\Com s t p↔uH t s p/\Com t s p:=by
 unfold uH Com;constructor;grind;grind
def bS4{s t:Sg}(c:bI s)(d:bI t):dG s t=0↔(¬∃p,uH s t p/\Com s t p)/\¬zT9 s t:=by
 have h:=tells c d;have hv:=dM4 (s:=s) (t:=t);constructor;intro f;have e:¬∃p,uH s t p/\Com s t p:=λq=>by have:=h.touch.1 q;omega
 exact⟨e,λq=>by have:=h.cross.2 ⟨e,q⟩;omega⟩;rintro⟨a,b⟩;rcases hv with q|q|q|q;exact q;exact absurd (h.touch.2 (.inl q)) a;exact absurd (h.cross.1 q).2 b;exact absurd (h.touch.2 (.inr q)) a
def dS2{s t:Sg}(a:bI s)(b:bI t)(h:dG s t=0):dG t s=0:=by
 rw[bS4 a b]at h;rw[bS4 b a];refine⟨λ⟨p,c⟩=>h.1 ⟨p,eD0.1 c⟩,λq=>h.2 ?_⟩;exact⟨q.2,q.1⟩
def vV{r:Rg}(h:3<=r.length):bF r=dD (λi=>r.getD i z0) r.length:=by
 unfold bF dD;rw[Ph Aa];refine Ru (λi hi=>?_);have:=Qh.1 hi;show(r.getD i z0,iU r i)=_;rw[Nat.mod_eq_of_lt this];rfl
def bC9{r:Rg}(h:3<=r.length){e:Sg}:e∈bF r↔∃i,i<r.length/\e=aJ4 r i:=by
 unfold bF;rw[Ph Aa,PI];constructor;rintro⟨i,hi,rfl⟩;exact⟨i,Qh.1 hi,rfl⟩;rintro⟨i,hi,rfl⟩;exact⟨i,Qh.2 hi,rfl⟩
def vN{r:Rg}(a:bR7 r){v:Vc}(hv:v∈r):Sm4 v:=by
 have:=a v hv;rw[within_iff Aa]at this;unfold Sm4;omega
theorem aG8{r:Rg}(h:dM r){e:Sg}(f:e∈bF r):e.1≠e.2:=by
 obtain⟨i,hi,rfl⟩:=(bC9 h.1).1 f;intro g;have j:=h.2.2.2.2.1 i hi;apply j;have b:=vN h.2.2.1 (aE1 hi);have c:=vN h.2.2.1 (v:=mY r i) (aE1 (QE _ Aa));have d:=vN h.2.2.1 (bA6 hi);rw[zH c b d];have a:r.getD i z0=iU r i:=g;rw[a];have:X (dif (iU r i) (mY r i)) (dif (iU r i) (mY r i))=0:=by unfold X;rw[Int.mul_comm];omega
 rw[this];rfl
def bH8{p:Vc}(d:Sm4 p):∀ {l:List Sg} {b:Bool},(∀e∈l,bI e)->(∀e∈l,¬eX e p)->lU (p.1,p.2,1) l b=if(b^^par p l)=true then 2 else 0
 | [],b,_,_=>by
   rw[qB];show _=if(b^^false)=true then 2 else 0
   rw[Bool.xor_false]
 |e::l,b,a,c=>by
  have g:=a e Af;have i:=c e Af;have j:¬onE (p.1,p.2,1) e:=λq=>i ((cC3 d g).1 q);have f:par p (e::l)=(decB (ray e p)^^par p l):=rfl;have k:=λb=>bH8 d (l:=l) (b:=b) (λx hx=>a x BO) (λx hx=>c x BO);grind [rE,dH,dD7,jD,dW,ray]
def onR(r:Rg)(v:Vc):Prop:=∃e∈bF r,eX e v
theorem nZ{r:Rg}(h:dM r){v:Vc}(hv:Sm4 v):fJ r v=1↔onR r v:=by
 rw[aC1 (pY.2 hv),aD9 h (bC7 hv),yZ];constructor;rintro⟨e,a,q⟩;exact⟨e,a,(cC3 hv (jO h.2.2.1 a)).1 q⟩;rintro⟨e,a,q⟩;exact⟨e,a,(cC3 hv (jO h.2.2.1 a)).2 q⟩
theorem zS9{r:Rg}(h:dM r){v:Vc}(hv:Sm4 v)(b:¬onR r v):fJ r v=if par v (bF r)=true then 2 else 0:=by
 rw[aC1 (pY.2 hv),aD9 h (bC7 hv),bH8 hv (λe a=>jO h.2.2.1 a) (λe a q=>b ⟨e,a,q⟩),Bool.false_xor]
def zD{r:Rg}(h:dM r){v:Vc}(hv:Sm4 v):fJ r v=2↔¬onR r v/\par v (bF r)=true:=by
 constructor;grind [nZ,zS9];simp_all [zS9,Pm]
def aE8{r:Rg}(h:dM r){v:Vc}(hv:Sm4 v):fJ r v=0↔¬onR r v/\par v (bF r)=false:=by
 grind [nZ,zS9]
structure Apart(a b:Rg):Prop where
 oa:dM a
 ob:dM b
 ap:uV a b
def Apart.symm{a b:Rg}(h:Apart a b):Apart b a:=⟨h.ob,h.oa,λx c y d=>dS2 (jO h.oa.2.2.1 d) (jO h.ob.2.2.1 c) (h.ap y d x c)⟩
def Apart.sep{a b:Rg}(h:Apart a b){f g:Sg}(c:f∈bF a)(d:g∈bF b):Sep f.1 f.2 g:=
 rC (jO h.oa.2.2.1 c) (jO h.ob.2.2.1 d) (aG8 h.oa c) (h.ap f c g d)
def Apart.off{a b:Rg}(h:Apart a b){v:Vc}(hv:onR a v):¬onR b v:=by
 rintro⟨g,d,q⟩;obtain⟨f,c,p⟩:=hv;exact eZ7 (jO h.oa.2.2.1 c) (jO h.ob.2.2.1 d) (aG8 h.oa c) (aG8 h.ob d) (h.ap f c g d) p q
def Apart.along{a b:Rg}(h:Apart a b){f:Sg}(c:f∈bF a){v:Vc}(hv:eX f v):par v (bF b)=par f.2 (bF b):=by
 obtain⟨N,k,e⟩:=cX7 (jO h.oa.2.2.1 c) (aG8 h.oa c) hv;rw[vV h.ob.1];exact eY9 _ _ e (λg d=>h.sep c (by rw[vV h.ob.1];exact d))
def vH{r:Rg}(h:dM r){e:Sg}(a:e∈bF r):e.1∈r/\e.2∈r:=by
 obtain⟨i,hi,rfl⟩:=(bC9 h.1).1 a;exact⟨aE1 hi,bA6 hi⟩
def Apart.const{a b:Rg}(h:Apart a b):∀i,i<a.length->par (a.getD i z0) (bF b)=par (a.getD 0 z0) (bF b):=by
 intro i;induction i with
 |zero=>intro _;rfl
 |succ i e=>
  intro hi;rw[<-e Aa];have c:aJ4 a i∈bF a:=(bC9 h.oa.1).2 ⟨i,Aa,rfl⟩;have k:=h.along c (rH (jO h.oa.2.2.1 c))
  have d:(aJ4 a i).2=a.getD (i+1) z0:=by
   show iU a i=_;unfold iU;rw[Nat.mod_eq_of_lt hi]
  rw[d]at k;exact k.symm
def Apart.fC0{a b:Rg}(h:Apart a b){u v:Vc}(d:u∈a)(hv:v∈a):par u (bF b)=par v (bF b):=by
 obtain⟨i,hi,rfl⟩:=List.mem_iff_getElem.1 d;obtain⟨j,c,rfl⟩:=List.mem_iff_getElem.1 hv;have e:=h.const i hi;have f:=h.const j c;simp_all
def eB8:∀ {l:List Vc},l≠ []->∃m∈l,∀v∈l,v.2<=m.2
 | [],h=>absurd rfl h
 | [x],_=>⟨x,Af,λv hv=>by rw[Py.1 hv];omega⟩
 |x::y::l,_=>by
  obtain⟨m,a,b⟩:=eB8 (l:=y::l) Af;by_cases h:m.2<=x.2;grind;grind
def Apart.outer{h o:Rg}(c:Apart h o)(f:pR h o 2):∀v∈o,par v (bF h)=false:=by
 have g:o≠ [] :=λq=>by have:=c.ob.1;rw[q]at this;simp at this
 obtain⟨m,p,b⟩:=eB8 g
 have a:∀u∈h,u.2<=m.2:=by
  intro u l;by_cases r:u.2<=m.2;exact r;exfalso;have k:=((zD c.ob (vN c.oa.2.2.1 l)).1 (f u l)).2
  rw[dH1 (λe d=>by
   obtain⟨i,j⟩:=vH c.ob d;have:=b _ i;have:=b _ j;omega)]at k
  cases k
 have n:par m (bF h)=false:=dH1 (λe d=>by
  obtain⟨i,j⟩:=vH c.oa d;exact⟨a _ i,a _ j⟩)
 intro v hv;rw[<-n];exact c.symm.fC0 hv p
def Apart.inner{h o:Rg}(ha:Apart h o)(hin:pR h o 2){v:Vc}(hv:Sm4 v)(l:fJ h v≠0):fJ o v=2:=by
 rw[zD ha.ob hv];by_cases d:onR h v;refine⟨ha.off d,?_⟩;obtain⟨f,hf,q⟩:=d;rw[ha.along hf q];exact Og
 have b:par v (bF h)=true:=by
  cases k:par v (bF h)
  exact absurd ((aE8 ha.oa hv).2 ⟨d,k⟩) l;rfl
 have c:=ha.outer hin;constructor;rintro⟨g,a,q⟩;have:=ha.symm.along a q;rw[b,c _ (vH ha.ob a).2]at this;cases this;have j:=vV ha.ob.1;have e:=vV ha.oa.1;rw[j];rw[e]at b;refine cT7 (vh:=λi=>h.getD i z0) (nh:=h.length) ?_ ?_ ?_ ?_ ?_ ?_ ?_ b;intro g a;rw[<-j]at a;exact jO ha.ob.2.2.1 a;intro f hf;rw[<-e]at hf;exact jO ha.oa.2.2.1 hf;intro f hf g a;rw[<-e]at hf;rw[<-j]at a;exact⟨ha.ap f hf g a,ha.symm.ap g a f hf⟩;intro f hf;rw[<-e]at hf;exact aG8 ha.oa hf;intro g a;rw[<-j]at a;exact aG8 ha.ob a;intro f hf;rw[<-e]at hf;rw[<-j];exact Og;intro g a;rw[<-j]at a;rw[<-e];exact c _ (vH ha.ob a).2
def Apart.beside{h k:Rg}(a:Apart h k)(c:pR h k 0){v:Vc}(b:onR h v)(hv:Sm4 v):fJ k v=0:=by
 rw[aE8 a.ob hv];refine⟨a.off b,?_⟩;obtain⟨f,e,q⟩:=b;rw[a.along e q];have d:=(vH a.oa e).2;exact((aE8 a.ob (vN a.oa.2.2.1 d)).1 (c _ d)).2
def Dt(u v:Vc):Int:=u.1*v.1+u.2*v.2
def SmV(u:Vc):Prop:=Sm u.1/\Sm u.2
def cY3{u:Vc}(h:u≠(0,0)):0<Dt u u:=by
 unfold Dt;have a:=sgn u.1 u.1;have b:=sgn u.2 u.2;grind
structure SecG(x:Sg):Prop where
 s1:SmV x.1
 s2:SmV x.2
 n1:x.1≠(0,0)
 n2:x.2≠(0,0)
 ne:¬(X x.1 x.2=0/\0<=Dt x.1 x.2)
theorem eB7(u v:Vc):X u v= -X v u:=by unfold X;grind
theorem dH3(u v:Vc):Dt u v=Dt v u:=by unfold Dt;grind
def Dir(u v:Vc):Prop:=∃N m,0<N/\0<m/\N*u.1=m*v.1/\N*u.2=m*v.2
def dir_refl(u:Vc):Dir u u:=⟨1,1,Ai,Ai,rfl,rfl⟩
def DirS(x y:Sg):Prop:=Dir x.1 y.1/\Dir x.2 y.2
def fT6(r:Rg)(i:Nat):Int:=kR (r.getD i z0) (r.getD ((i+1)% r.length) z0) (r.getD ((i+2)% r.length) z0)
theorem fN2{n i:Nat}(h:i<n):((i+1)% n+n-1)% n=i:=by
 by_cases a:i+1=n;rw[a,Nat.mod_self,QD,Nat.mod_eq_of_lt Aa];omega;rw[Nat.mod_eq_of_lt (show i+1<n from Aa),show i+1+n-1=i+n from Aa,Nat.add_mod_right,Nat.mod_eq_of_lt h]
theorem fY2{r:Rg}{i:Nat}(h:i<r.length):fT6 r i=kR (mY r ((i+1)% r.length)) (r.getD ((i+1)% r.length) z0) (iU r ((i+1)% r.length)):=by
 unfold fT6 mY iU;rw[fN2 h,Nat.mod_add_mod]
theorem fU3{r:Rg}:(∀i,i<r.length->kR (mY r i) (r.getD i z0) (iU r i)≠0)↔∀i,i<r.length->fT6 r i≠0:=by
 constructor;grind [fY2,QE];intro h i hi;have a:(i+r.length-1)% r.length<r.length:=QE _ Aa;have k:=h _ a;rw[fY2 a]at k
 have e:((i+r.length-1)% r.length+1)% r.length=i:=by
  by_cases b:i=0;subst b;rw[Nat.mod_eq_of_lt (show 0+r.length-1<r.length from Aa),show 0+r.length-1+1=r.length from Aa,Nat.mod_self];rw[show i+r.length-1=(i-1)+r.length from Aa,Nat.add_mod_right,Nat.mod_eq_of_lt (show i-1<r.length from Aa),show i-1+1=i from Aa,Nat.mod_eq_of_lt hi]
 rw[e]at k;exact k
def fZ9{s t:Sg}(hs:bI s)(ht:bI t)(h:t.1=s.2)(hd:xD s t≠0):dG s t=1:=by
 have hA:xA s t=xD s t:=by unfold xA xD;rw[h]
 have hB:xB s t=0:=by unfold xB;rw[h];unfold X;rw[Int.mul_comm];omega
 exact NR
def fX6{s t:Sg}(hs:bI s)(ht:bI t)(h:t.2=s.1)(hd:xD s t≠0):dG s t=1:=by
 have hA:xA s t=0:=by
  unfold xA;rw[h];unfold X dif;simp only;grind
 have hB:xB s t=xD s t:=by
  unfold xB xD;rw[h];unfold X dif;simp only;grind
 exact NR
def adj(n i k:Nat):Prop:=k=i+1\/(i=0/\k=n-1)
def fM5(r:Rg)(i k:Nat):Prop:=(adj r.length i k->dG ((bF r).getD i (z0,z0)) ((bF r).getD k (z0,z0))=1)/\(¬adj r.length i k->dG ((bF r).getD i (z0,z0)) ((bF r).getD k (z0,z0))=0)
def fH0{r:Rg}(a:3<=r.length){i:Nat}(hi:i<r.length):(bF r).getD i (z0,z0)=aJ4 r i:=by
 unfold bF;grind
def fH4{a b c:Vc}(d:Sm4 a)(f:Sm4 b)(g:Sm4 c)(h:kR a b c≠0):X (dif b a) (dif c b)≠0:=by
 rw[zH d f g,tC]at h;have e:X (dif b a) (dif c b)=X (dif b a) (dif c a):=BM;rw[e];exact h
def gG1{r:Rg}(e:3<=r.length)(d:bR7 r)(g:∀i,i<r.length->fT6 r i≠0){i k:Nat}(o:i<k)(c:k<r.length)(n:adj r.length i k):
 dG ((bF r).getD i (z0,z0)) ((bF r).getD k (z0,z0))=1:=by
 have a:∀j,j<r.length->bI (aJ4 r j):=λj s=>jO d ((bC9 e).2 ⟨j,s,rfl⟩);have b:∀j,Sm4 (r.getD (j% r.length) z0):=λj=>vN d (aE1 (QE _ Aa));rw[fH0 e Aa,fH0 e c];rcases n with rfl|⟨rfl,rfl⟩
 ·refine fZ9 (a i Aa) (a _ c) ?_ ?_
  ·show r.getD (i+1) z0=iU r i
   unfold iU;rw[Nat.mod_eq_of_lt c]
  ·have:=fH4 (vN d (aE1 Aa)) (b (i+1)) (b (i+2)) (g i Aa)
   show X (dif (iU r i) (r.getD i z0)) (dif (iU r (i+1)) (r.getD (i+1) z0))≠0;grind [Nat.mod_eq_of_lt,iU]
 ·refine fX6 (a 0 Aa) (a _ c) ?_ ?_
  ·show iU r (r.length-1)=r.getD 0 z0
   unfold iU;rw[show r.length-1+1=r.length from Aa,Nat.mod_self]
  ·have:=fH4 (vN d (aE1 c)) (b (r.length-1+1)) (b (r.length-1+2)) (g (r.length-1) c)
   have f:(r.length-1+1)% r.length=0:=DV;have l:(r.length-1+2)% r.length=1:=BI;rw[f,l]at this;show X (dif (iU r 0) (r.getD 0 z0)) (dif (iU r (r.length-1)) (r.getD (r.length-1) z0))≠0;unfold iU;rw[f,QD,Nat.mod_eq_of_lt (show 1<r.length from Aa)];intro q;apply this;have m:X (dif (r.getD 0 z0) (r.getD (r.length-1) z0)) (dif (r.getD 1 z0) (r.getD 0 z0))= -X (dif (r.getD 1 z0) (r.getD 0 z0)) (dif (r.getD 0 z0) (r.getD (r.length-1) z0)):=by unfold X;grind
   rw[m,q];rfl
def fR4{r:Rg}:dM r↔(3<=r.length/\r.length<=40/\bR7 r/\(∀i,i<r.length->fT6 r i≠0)/\(∀i k,i<k->k<r.length->fM5 r i k)/\0<zY r):=by
 unfold dM;rw[fU3];constructor;rintro⟨d,h,e,j,f,l⟩;refine⟨d,h,e,f,λi k a g=>⟨λm=>gG1 d e f a g m,λc=>?_⟩,j⟩;refine l i k a g (λq=>c (.inl q)) ?_;by_cases q:i=0;exact .inr (λb=>c (.inr ⟨q,b⟩));exact .inl q;rintro⟨d,h,e,j,f,l⟩;refine⟨d,h,e,l,j,λi k a g o b=>?_⟩;refine(f i k a g).2 ?_;rintro(q|⟨q,n⟩);exact o q;rcases b with b|b;exact b q;exact b n
def ahead(x:Vc)(l:List Vc):Nat:=(l.takeWhile λy=>decB (kF y x)).length
theorem fF3{r:Rg}(h:3<=r.length){i:Nat}(hi:i<r.length):aJ4 r i∈bF r:=(bC9 h).2 ⟨i,hi,rfl⟩
theorem fP4{r:Rg}{i:Nat}(hi:i+1<r.length):iU r i=r.getD (i+1) z0:=by unfold iU;rw[Nat.mod_eq_of_lt hi]
def fJ5{r:Rg}(h:0<r.length):iU r (r.length-1)=r.getD 0 z0:=by unfold iU;rw[show r.length-1+1=r.length by omega,Nat.mod_self]
def fK4{r:Rg}(h:dM r){i k:Nat}(g:i<k)(b:k<r.length){p:Vc}(l:eX (aJ4 r i) p)(m:eX (aJ4 r k) p):
 (k=i+1/\p=iU r i)\/(i=0/\k=r.length-1/\p=r.getD 0 z0):=by
 have f:=h.1;have c:=h.2.2.1;have o:=fU3.1 h.2.2.2.2.1;have o1:=jO c (fF3 f (show i<r.length from Aa));have o2:=jO c (fF3 f b);have n:=(fR4.1 h).2.2.2.2.1 i k g b;have a:∀j,Sm4 (r.getD (j% r.length) z0):=λj=>vN c (aE1 (QE _ Aa));unfold fM5 at n;rw[fH0 f Aa,fH0 f b]at n;by_cases u:adj r.length i k
 ·rcases u with rfl|⟨rfl,rfl⟩
  ·left
   refine⟨rfl,?_⟩;have d:=fH4 (vN c (aE1 (show i<r.length from Aa))) (a (i+1)) (a (i+2)) (o i Aa);refine eO4 o1 o2 ?_ ⟨l,m⟩ ⟨cN1 o1,?_⟩
   ·show X (dif (iU r i) (r.getD i z0)) (dif (iU r (i+1)) (r.getD (i+1) z0))≠0
    unfold iU;rw[Nat.mod_eq_of_lt b]at d⊢;exact d
   ·have e:(aJ4 r (i+1)).1=iU r i:=(fP4 b).symm
    show eX (aJ4 r (i+1)) (iU r i);rw[<-e];exact rH o2
  ·right
   refine⟨rfl,rfl,?_⟩;have d:=fH4 (vN c (aE1 b)) (a (r.length-1+1)) (a (r.length-1+2)) (o (r.length-1) b);have s:(r.length-1+1)% r.length=0:=DV;have t:(r.length-1+2)% r.length=1:=BI;rw[s,t]at d;refine eO4 o1 o2 ?_ ⟨l,m⟩ ⟨rH o1,?_⟩
   ·show X (dif (iU r 0) (r.getD 0 z0)) (dif (iU r (r.length-1)) (r.getD (r.length-1) z0))≠0
    rw[fP4 (show 0+1<r.length from Aa),fJ5 Aa];intro q;apply d;rw[eB7,q];rfl
   ·have e:(aJ4 r (r.length-1)).2=r.getD 0 z0:=fJ5 Aa
    show eX (aJ4 r (r.length-1)) (r.getD 0 z0);rw[<-e];exact cN1 o2
 ·grind [eZ7,aG8,fF3]
def Vtx(r:Rg)(p:Vc)(j:Nat):Prop:=j<r.length/\r.getD j z0=p
def Edg(r:Rg)(p:Vc)(j:Nat):Prop:=j<r.length/\r.getD j z0≠p/\iU r j≠p/\eX (aJ4 r j) p
def fF1{r:Rg}(h:dM r){i:Nat}(hi:i<r.length):r.getD i z0≠iU r i:=aG8 h (fF3 h.1 hi)
def fQ2{r:Rg}(h:dM r){p:Vc}{j:Nat}(a:Vtx r p j):eX (aJ4 r j) p:=by
 have:=rH (jO h.2.2.1 (fF3 h.1 a.1));rw[<-a.2];exact this
theorem gH3{r:Rg}(h:dM r){p:Vc}{i j:Nat}(hi:Vtx r p i)(a:Vtx r p j)(b:i<j):False:=by
 rcases fK4 h b a.1 (fQ2 h hi) (fQ2 h a)with⟨e,q⟩|⟨d,c,q⟩;exact fF1 h hi.1 (hi.2.trans q);have:=fF1 h a.1;rw[c,fJ5 (by have:=h.1;omega),<-q,<-c]at this;exact this a.2
def gF4{r:Rg}(h:dM r){p:Vc}{i j:Nat}(hi:Vtx r p i)(a:Vtx r p j):i=j:=by
 grind [Si,gH3]
def fU6{r:Rg}(h:dM r){p:Vc}{j m:Nat}(b:Vtx r p j)(a:Edg r p m):False:=by
 rcases Si j m with q|q|q;rcases fK4 h q a.1 (fQ2 h b) a.2.2.2 with⟨e,k⟩|⟨c,d,k⟩;subst e;rw[fP4 a.1]at k;exact a.2.1 k.symm;have:=a.2.2.1;rw[d,fJ5 (by have:=h.1;omega)]at this;exact this k.symm;subst q;exact a.2.1 b.2;rcases fK4 h q b.1 a.2.2.2 (fQ2 h b)with⟨e,k⟩|⟨c,d,k⟩;exact a.2.2.1 k.symm;subst c;exact a.2.1 k.symm
theorem gH1{r:Rg}(h:dM r){p:Vc}{i m:Nat}(hi:Edg r p i)(a:Edg r p m)(q:i<m):False:=by
 rcases fK4 h q a.1 hi.2.2.2 a.2.2.2 with⟨e,k⟩|⟨b,c,k⟩;exact hi.2.2.1 k.symm;subst b;exact hi.2.1 k.symm
def gF3{r:Rg}(h:dM r){p:Vc}{i j:Nat}(hi:Edg r p i)(a:Edg r p j):i=j:=by
 grind [Si,gH1]
def fE8(i:Nat)(x:Sg):Sg:=if 0<i then(x.2,x.1)else x
def vSec(r:Rg)(p:Vc)(j:Nat):Sg:=(vsub (iU r j) p,vsub (mY r j) p)
def eSec(r:Rg)(m:Nat):Sg:=(vsub (iU r m) (r.getD m z0),vsub (r.getD m z0) (iU r m))
def Sec(i:Nat)(r:Rg)(p:Vc)(x:Sg):Prop:=(∃j,Vtx r p j/\x=fE8 i (vSec r p j))\/(∃m,Edg r p m/\DirS x (fE8 i (eSec r m))/\SmV x.1/\SmV x.2)
open Classical in
def secV(i:Nat)(r:Rg)(p:Vc)(k:Nat):Option Sg:=
 if iU r k=p then some (fE8 i (vsub (r.getD ((k+2)% r.length) z0) p,vsub (r.getD k z0) p))
 else if r.getD k z0≠p/\eX (r.getD k z0,iU r k) p then some (fE8 i (eSec r k))else none
def secR(i:Nat)(r:Rg)(p:Vc):Option Sg:=(List.range r.length).findSome? (secV i r p)
def secL(p:Vc):Nat->List Rg->Option Sg
 |_,[] =>none
 |i,r::R=>(secR i r p).or (secL p (i+1) R)
theorem fE0{a b:Vc}(c:Sm4 a)(d:Sm4 b):vsub a b=dif a b:=by
 unfold Sm4 at*;exact kN ⟨Aa,Aa⟩ ⟨Aa,Aa⟩
theorem fE3{a b:Vc}(c:Sm4 a)(d:Sm4 b):SmV (vsub a b):=by
 grind [fE0,Sm4,SmV,Sm,dif]
def fM9{a b:Vc}(h:a≠b):dif a b≠(0,0):=bZ7 (λe=>h e.symm)
def gA0{a b p:Vc}(c:Sm4 a)(d:Sm4 b)(l:Sm4 p)(e:a≠b)(r:a≠p)(t:b≠p)(f:eX (a,b) p):Dir (vsub b p) (vsub b a)/\Dir (vsub a p) (vsub a b):=by
 obtain⟨N,k,j,m,n,g,i⟩:=cX7 (s:=(a,b)) (jP.2 ⟨c,d⟩) e f;rw[fE0 d l,fE0 d c,fE0 c l,fE0 c d];simp only at g i
 have u:k≠0:=by
  intro q;rw[q,Int.zero_mul]at g i;grind [Int.mul_eq_zero]
 have o:k≠N:=by
  grind [Int.eq_of_mul_eq_mul_left]
 refine⟨⟨N,N-k,j,Aa,?_,?_⟩,⟨N,k,j,Aa,?_,?_⟩⟩<;>(unfold dif;simp only;grind)
def fY8{r:Rg}{i:Nat}(h:i<r.length):mY r i∈r:=aE1 (QE _ Aa)
def fX3{a b p:Vc}(h:eX (a,b) p):eX (b,a) p:=by
 have c:=h.1;have d:bI (b,a):=⟨c.2,c.1⟩;rw[gZ d];obtain⟨e,f⟩:=(gZ c).1 h;refine⟨?_,?_⟩;unfold Bb at*;simp only at*;omega;unfold X dif at*;simp only at*;grind
def fN6{r:Rg}{k:Nat}(a:k<r.length):∃m,m<r.length/\mY r k=r.getD m z0/\iU r m=r.getD k z0:=by
 by_cases h:k=0;subst h;refine⟨r.length-1,Aa,?_,fJ5 Aa⟩;unfold mY;simp_all;refine⟨k-1,Aa,?_,?_⟩;unfold mY;rw[show k+r.length-1=(k-1)+r.length from Aa,Nat.add_mod_right,Nat.mod_eq_of_lt Aa];grind [fP4]
def gA6{i:Nat}{r:Rg}(h:dM r){p:Vc}(c:Sm4 p){k:Nat}(b:k<r.length){x:Sg}(d:dJ i r p k=some x):Sec i r p x:=by
 have g:=h.2.2.1;have j:=vN g (aE1 b);have t:=vN g (bA6 b);have w:=vN g (fY8 b);unfold dJ at d;split at d;rename_i hv;cases d;refine .inl ⟨k,⟨b,hv⟩,?_⟩;unfold fE8 vSec arN arL;split<;>rfl;rename_i hv;split at d;rename_i a;cases d;right;by_cases f:0<i;have l:arN i r k=mY r k:=Pm f;rw[l]at a⊢;obtain⟨m,o,v,e⟩:=fN6 b;rw[v]at a⊢;have u:=vN g (aE1 o);refine⟨m,⟨o,a.1,by rw[e];exact hv,by show eX (r.getD m z0,iU r m) p;rw[e];exact fX3 a.2⟩,?_,fE3 u c,fE3 j c⟩;have s:r.getD m z0≠r.getD k z0:=by rw[<-e];exact fF1 h o
 have n:=gA0 j u c (λq=>s q.symm) hv a.1 a.2;unfold fE8 eSec;rw[Pm f,e];exact n;have l:arN i r k=iU r k:=Ph f;rw[l]at a⊢;refine⟨k,⟨b,hv,a.1,a.2⟩,?_,fE3 t c,fE3 j c⟩;have n:=gA0 j t c (fF1 h b) hv a.1 a.2;unfold fE8 eSec;rw[Ph f];exact n;cases d
def gH9{i:Nat}{r:Rg}(h:dM r){p:Vc}(e:Sm4 p){k:Nat}(b:k<r.length){x:Sg}(a:secV i r p k=some x):Sec i r p x:=by
 have d:=h.2.2.1;have f:=vN d (aE1 b);have g:=vN d (bA6 b);unfold secV at a;split at a;rename_i hv;cases a;refine .inl ⟨(k+1)% r.length,⟨QE _ Aa,hv⟩,?_⟩;simp_all [Nat.mod_add_mod,fN2,vSec,iU,mY];rename_i hv;split at a;rename_i c;cases a;refine .inr ⟨k,⟨b,c.1,hv,c.2⟩,⟨dir_refl _,dir_refl _⟩,?_,?_⟩;grind [fE3,fE8,eSec];grind [fE3,fE8,eSec];cases a
def gF0{i:Nat}{r:Rg}(h:dM r){p:Vc}{x:Sg}(f:Sec i r p x):(∃j,Vtx r p j/\∀y,Sec i r p y->y=fE8 i (vSec r p j))\/(∃m,Edg r p m/\∀y,Sec i r p y->DirS y (fE8 i (eSec r m))):=by
 rcases f with⟨j,c,_⟩|⟨m,b,_⟩;left;refine⟨j,c,λy e=>?_⟩;rcases e with⟨g,a,q⟩|⟨m,b,_⟩;rw[gF4 h c a];exact q;exact(fU6 h c b).elim;right;refine⟨m,b,λy e=>?_⟩;rcases e with⟨g,a,_⟩|⟨k,d,q,_⟩;exact(fU6 h a b).elim;rw[gF3 h b d];exact q
def stdS(i:Nat)(r:Rg)(p:Vc)(z:Sg):Prop:=SecG z/\∀y,Sec i r p y->DirS y z/\SmV y.1/\SmV y.2
def fS8{x:Sg}(h:SecG x):SecG (x.2,x.1):=⟨h.s2,h.s1,h.n2,h.n1,λq=>h.ne (by rw[eB7,dH3];exact⟨by have:=q.1;simp only at this;omega,q.2⟩)⟩
def fR0{x:Sg}(i:Nat)(h:SecG x):SecG (fE8 i x):=by
 unfold fE8;split;exact fS8 h;exact h
def gF5{i:Nat}{r:Rg}(h:dM r){p:Vc}(d:Sm4 p){x:Sg}(C:Sec i r p x):∃z,stdS i r p z:=by
 have n:=h.2.2.1;rcases gF0 h C with⟨j,b,t⟩|⟨m,f,t⟩;have a:=vN n (bA6 b.1);have o:=vN n (fY8 b.1)
 have k:SecG (fE8 i (vSec r p j)):=by
  refine fR0 i ⟨fE3 a d,fE3 o d,?_,?_,?_⟩;show vsub (iU r j) p≠(0,0);rw[fE0 a d,<-b.2];exact fM9 (λq=>fF1 h b.1 q.symm);show vsub (mY r j) p≠(0,0);obtain⟨m,f,w,A⟩:=fN6 b.1;rw[fE0 o d,<-b.2,w,<-A];exact fM9 (fF1 h f);show¬(X (vsub (iU r j) p) (vsub (mY r j) p)=0/\_);rw[fE0 a d,fE0 o d];rintro⟨q,_⟩;have v:=h.2.2.2.2.1 j b.1;rw[b.2,zH o d a,tC]at v;apply v;unfold X dif at*;simp only at*;grind
 exact⟨_,k,λy l=>by rw[t y l];exact⟨⟨dir_refl _,dir_refl _⟩,k.s1,k.s2⟩⟩;have g:=vN n (aE1 f.1);have a:=vN n (bA6 f.1);have c:=fF1 h f.1
 have k:SecG (fE8 i (eSec r m)):=by
  refine fR0 i ⟨fE3 a g,fE3 g a,?_,?_,?_⟩;show vsub _ _≠(0,0);rw[fE0 a g];exact fM9 (λq=>c q.symm);show vsub _ _≠(0,0);rw[fE0 g a];exact fM9 c;show¬(_/\0<=Dt (vsub _ _) (vsub _ _));rw[fE0 a g,fE0 g a];rintro⟨_,q⟩;have u:=cY3 (fM9 (λq=>c q.symm):dif (iU r m) (r.getD m z0)≠(0,0));have e:Dt (dif (iU r m) (r.getD m z0)) (dif (r.getD m z0) (iU r m))= -Dt (dif (iU r m) (r.getD m z0)) (dif (iU r m) (r.getD m z0)):=by unfold Dt dif;simp only;grind
  omega
 refine⟨_,k,λy l=>⟨t y l,?_⟩⟩;rcases l with⟨D,s,_⟩|⟨E,B,_,q⟩;exact(fU6 h s f).elim;exact q
def fE5{f:Nat->Option Sg}{n:Nat}:((List.range n).findSome? f=none↔∀k:Nat,k<n->f k=none)/\∀x,(List.range n).findSome? f=some x->∃k:Nat,k<n/\f k=some x:=by
 constructor;simp_all;intro x h;obtain⟨k,a,q⟩:=List.exists_of_findSome?_eq_some h;exact⟨k,Qh.1 a,q⟩
theorem fI4{i:Nat}{r:Rg}(h:dM r){p:Vc}(b:Sm4 p){x:Sg}(c:qY i r p=some x):Sec i r p x:=by
 obtain⟨k,a,q⟩:=fE5.2 x c;exact gA6 h b a q
theorem fY6{i:Nat}{r:Rg}(h:dM r){p:Vc}(b:Sm4 p){x:Sg}(c:secR i r p=some x):Sec i r p x:=by
 obtain⟨k,a,q⟩:=fE5.2 x c;exact gH9 h b a q
def gG0{i:Nat}{r:Rg}(h:dM r){p:Vc}{x:Sg}(c:Sec i r p x):onR r p:=by
 rcases c with⟨j,a,_⟩|⟨m,b,_⟩;exact⟨aJ4 r j,fF3 h.1 a.1,fQ2 h a⟩;exact⟨aJ4 r m,fF3 h.1 b.1,b.2.2.2⟩
def gI2{i:Nat}{r:Rg}(h:dM r){p:Vc}(c:onR r p):secR i r p≠none:=by
 obtain⟨e,j,q⟩:=c;obtain⟨k,d,rfl⟩:=(bC9 h.1).1 j;intro b;have a:=fE5.1.1 b k d;unfold secV at a;split at a;cases a;rename_i t;split at a;cases a;rename_i g
 have u:r.getD k z0=p:=by
  by_cases f:r.getD k z0=p;exact f;exact absurd ⟨f,q⟩ g
 obtain⟨m,l,o,s⟩:=fN6 d;have n:=fE5.1.1 b m l;simp_all [Pm,secV]
def gB1{i:Nat}{r:Rg}(h:dM r){p:Vc}(f:onR r p):qY i r p≠none:=by
 obtain⟨e,l,q⟩:=f;obtain⟨k,c,rfl⟩:=(bC9 h.1).1 l;intro b
 have key:∀k,k<r.length->r.getD k z0≠p:=λk c m=>by
  have a:=fE5.1.1 b k c;simp_all [Pm,dJ]
 by_cases j:0<i;have g:(k+1)% r.length<r.length:=QE _ Aa;have a:=fE5.1.1 b _ g
 have d:arN i r ((k+1)% r.length)=r.getD k z0:=by
  simp_all [Pm,fN2,arN,mY]
 unfold dJ at a;rw[Ph (key _ g),d,Pm ⟨key k c,fX3 q⟩]at a;cases a;have a:=fE5.1.1 b k c;have d:arN i r k=iU r k:=Ph j;unfold dJ at a;rw[Ph (key k c),d,Pm ⟨key _ (QE _ Aa),q⟩]at a;cases a
def fL4(l:List Rg):Prop:=(∀r∈l,dM r)/\∀(i j:Nat) (a b:Rg),i<j->l[i]? =some a->l[j]? =some b->Apart a b
def gA4{r:Rg}{l:List Rg}(h:fL4 (r::l)):fL4 l:=⟨λx hx=>h.1 x BO,λi j a b e c d=>h.2 (i+1) (j+1) a b Aa (by rw[Qi];exact c) (by rw[Qi];exact d)⟩
def fH7{p:Vc}(c:Sm4 p):∀(l:List Rg) (i:Nat),fL4 l->
 ((∃r∈l,onR r p)->∃x y z,nR p i l=some x/\secL p i l=some y/\SecG z/\(DirS x z/\SmV x.1/\SmV x.2)/\(DirS y z/\SmV y.1/\SmV y.2))/\((¬∃r∈l,onR r p)->secL p i l=none)
 | [],i,_=>⟨(λ⟨r,b,_⟩=>by cases b),λ_=>rfl⟩
 |r::l,i,h=>by
  have b:=h.1 r Af;obtain⟨k,m⟩:=fH7 c l (i+1) (gA4 h);by_cases a:onR r p;refine⟨λ_=>?_,λq=>absurd ⟨r,Af,a⟩ q⟩;obtain⟨x,g⟩:=Option.ne_none_iff_exists'.1 (gB1 (i:=i) b a);obtain⟨y,s⟩:=Option.ne_none_iff_exists'.1 (gI2 (i:=i) b a);obtain⟨z,t,j⟩:=gF5 b c (fI4 b c g);grind [fI4,fY6,nR,secL]
  have n:qY i r p=none:=by
   cases d:qY i r p with
   |none=>rfl
   |some x=>exact absurd (gG0 b (fI4 b c d)) a
  have o:secR i r p=none:=by
   cases d:secR i r p with
   |none=>rfl
   |some x=>exact absurd (gG0 b (fY6 b c d)) a
  have e:nR p i (r::l)=nR p (i+1) l:=by rw[nR,n];rfl
  have f:secL p i (r::l)=secL p (i+1) l:=by rw[secL,o];rfl
  rw[e,f];grind
end Go.Proofs.Led
