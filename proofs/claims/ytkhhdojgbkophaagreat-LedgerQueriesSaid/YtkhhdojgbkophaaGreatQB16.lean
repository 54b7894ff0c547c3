/-
  How often the ray from a point crosses a ring: along a segment that the ring keeps away from, the parity stays.
-/
import Derived.Test.YtkhhdojgbkophaaGreatQSP1
set_option linter.unusedVariables false
set_option linter.unusedSimpArgs false
set_option maxRecDepth 100000
set_option maxHeartbeats 4000000
noncomputable section
namespace Go.Proofs.Led
open Go Go.Proofs Go.Ab
section
variable{α β:Type}
def xr(l:List α)(f:α->Bool):Bool:=l.foldr (fun x b=>f x^^b) false
theorem fD4(f:α->Bool):xr [] f=false:=rfl
theorem nS(x:α)(l:List α)(f:α->Bool):xr (x::l) f=(f x^^xr l f):=rfl
theorem cY7(f:α->Bool):∀l m:List α,xr (l++m) f=(xr l f^^xr m f)
 | [],m=>by rw[List.nil_append,fD4];cases xr m f<;>rfl
 |x::l,m=>by
  rw[List.cons_append,nS,nS,cY7 f l m];cases f x<;>cases xr l f<;>cases xr m f<;>rfl
theorem jF{f g:α->Bool}:∀ {l:List α},(∀x∈l,f x=g x)->xr l f=xr l g
 | [],_=>rfl
 |x::l,h=>by rw[nS,nS,h x (by simp),jF (fun y hy=>h y (by simp[hy]))]
theorem aD0:∀l:List α,xr l (fun _=>false)=false
 | [] =>rfl
 |x::l=>by rw[nS,aD0 l];rfl
theorem cA9(f g:α->Bool):∀l:List α,xr l (fun x=>f x^^g x)=(xr l f^^xr l g)
 | [] =>rfl
 |x::l=>by
  rw[nS,nS,nS,cA9 f g l];cases f x<;>cases g x<;>cases xr l f<;>cases xr l g<;>rfl
theorem bW6(c:Bool)(f:α->Bool)(l:List α):xr l (fun x=>c&&f x)=(c&&xr l f):=by
 cases c
 ·exact aD0 l
 ·exact jF (fun x _=>Bool.true_and _)
theorem dI9(f:α->β->Bool)(m:List β):∀l:List α,xr l (fun x=>xr m (f x))=xr m (fun y=>xr l (fun x=>f x y))
 | [] =>(aD0 m).symm
 |x::l=>by
  rw[nS,dI9 f m l,<-cA9];exact jF (fun y _=>(nS x l (fun x=>f x y)).symm)
theorem cW9(g:β->α)(f:α->Bool):∀l:List β,xr (l.map g) f=xr l (fun x=>f (g x))
 | [] =>rfl
 |x::l=>by rw[List.map_cons,nS,nS,cW9 g f l]
end
def par(p:Vc)(l:List Sg):Bool:=xr l (fun e=>decB (ray e p))
theorem dZ6{p q:Prop}(h:p↔q):decB p=decB q:=fQ h
theorem fA6{p q:Vc}{e:Sg}(hpq:p.2<=q.2)(h:Sep p q e):(decB (ray e p)^^decB (ray e q))=(decB (inRt p q e.1)^^decB (inRt p q e.2)):=by
 have k:=eT3 hpq h;rw[<-dH (p:=ray e p),<-dH (p:=ray e q),<-dH (p:=inRt p q e.1),<-dH (p:=inRt p q e.2)]at k;revert k;cases decB (ray e p)<;>cases decB (ray e q)<;>cases decB (inRt p q e.1)<;>cases decB (inRt p q e.2)<;>simp
def dD(v:Nat->Vc)(n:Nat):List Sg:=(List.range n).map fun i=>(v (i% n),v ((i+1)% n))
theorem dL9:∀a b c d x y z:Bool,(a^^b)=(x^^y)->(c^^d)=(y^^z)->((a^^c)^^(b^^d))=(x^^z):=Aq
theorem cF0{p q:Vc}(hpq:p.2<=q.2)(u:Nat->Vc):∀k,(∀i,i<k->Sep p q (u i,u (i+1)))->
 (par p ((List.range k).map fun i=>(u i,u (i+1)))^^par q ((List.range k).map fun i=>(u i,u (i+1))))=(decB (inRt p q (u 0))^^decB (inRt p q (u k)))
 |0,_=>by
  show(false^^false)=_;cases decB (inRt p q (u 0))<;>rfl
 |k+1,h=>by
  have ih:=cF0 hpq u k (fun i hi=>h i Aa);have hk:=fA6 hpq (h k Aa)
  rw[List.range_succ,List.map_append];unfold par at*;rw[cY7,cY7];refine dL9 _ _ _ _ _ _ _ ih ?_;rw[<-hk];show(((decB (ray (u k,u (k+1)) p))^^false)^^((decB (ray (u k,u (k+1)) q))^^false))=_;rw[Bool.xor_false,Bool.xor_false]
theorem eN7:∀a b c:Bool,(a^^b)=(c^^c)->a=b:=Aq
theorem eE9{p q:Vc}(hpq:p.2<=q.2)(v:Nat->Vc)(n:Nat)(h:∀e∈dD v n,Sep p q e):par p (dD v n)=par q (dD v n):=by
 have k:=cF0 hpq (fun i=>v (i% n)) n (fun i hi=>h _ (List.mem_map.2 ⟨i,List.mem_range.2 hi,rfl⟩));have e:v (n% n)=v (0% n):=by rw[Nat.mod_self,Nat.zero_mod]
 simp only[e]at k;exact eN7 _ _ _ k
theorem dT7{p q:Vc}(v:Nat->Vc)(n:Nat)(h:∀e∈dD v n,Sep p q e):par p (dD v n)=par q (dD v n):=by
 rcases Int.le_total p.2 q.2 with hpq|hpq
 ·exact eE9 hpq v n h
 ·exact(eE9 hpq v n (fun e he=>dW0 (h e he))).symm
def mulV(N:Int)(v:Vc):Vc:=(N*v.1,N*v.2)
def mulS(N:Int)(e:Sg):Sg:=(mulV N e.1,mulV N e.2)
theorem bQ3(N:Int)(v:Nat->Vc)(n:Nat):dD (fun i=>mulV N (v i)) n=(dD v n).map (mulS N):=by
 unfold dD;rw[List.map_map];rfl
theorem cG9(N:Int)(a b c d:Vc):X (dif (mulV N a) (mulV N b)) (dif (mulV N c) (mulV N d))=N*N*X (dif a b) (dif c d):=by
 unfold X dif mulV;simp only;grind
theorem sq_pos{N:Int}(hN:0<N):0<N*N:=Int.mul_pos hN hN
theorem aM0{N x y:Int}(hN:0<N)(h:y=N*x):(0<y↔0<x)/\(y<0↔x<0)/\(y=0↔x=0):=by
 have s:=sgn N x;rw[<-h]at s;omega
theorem le_mul{N a b:Int}(hN:0<N):(N*a<=N*b↔a<=b)/\(N*a<N*b↔a<b):=
 ⟨⟨fun h=>Int.le_of_mul_le_mul_left h hN,fun h=>Int.mul_le_mul_of_nonneg_left h Aa⟩,⟨fun h=>Int.lt_of_mul_lt_mul_left h Aa,fun h=>Int.mul_lt_mul_of_pos_left h hN⟩⟩
theorem eL6{N:Int}(hN:0<N)(e:Sg)(p:Vc):ray (mulS N e) (mulV N p)↔ray e p:=by
 unfold ray rayC;have k:=aM0 (sq_pos hN) (cG9 N e.2 e.1 p e.1);show(N*e.1.2<=N*p.2/\N*p.2<N*e.2.2/\0<X (dif (mulV N e.2) (mulV N e.1)) (dif (mulV N p) (mulV N e.1)))\/(N*e.2.2<=N*p.2/\N*p.2<N*e.1.2/\X (dif (mulV N e.2) (mulV N e.1)) (dif (mulV N p) (mulV N e.1))<0)↔_;rw[(le_mul hN).1,(le_mul hN).2,(le_mul hN).1,(le_mul hN).2,k.1,k.2.1]
theorem dD0{N:Int}(hN:0<N)(p:Vc)(l:List Sg):par (mulV N p) (l.map (mulS N))=par p l:=by
 unfold par;rw[cW9];exact jF (fun e _=>dZ6 (eL6 hN e p))
theorem eQ5{N:Int}(hN:0<N){p q:Vc}{e:Sg}(h:Sep p q e):Sep (mulV N p) (mulV N q) (mulS N e):=by
 have k1:=aM0 (sq_pos hN) (cG9 N q p e.1 p);have k2:=aM0 (sq_pos hN) (cG9 N q p e.2 p)
 have k3:=aM0 (sq_pos hN) (cG9 N e.2 e.1 p e.1);have k4:=aM0 (sq_pos hN) (cG9 N e.2 e.1 q e.1)
 unfold Sep at*;unfold mulS;simp only;rw[k1.1,k1.2.1,k1.2.2,k2.1,k2.2.1,k2.2.2,k3.1,k3.2.1,k3.2.2,k4.1,k4.2.1,k4.2.2];exact h
theorem cE3{N M k:Int}(hM:0<M){c d z:Vc}(v:Nat->Vc)(n:Nat)(hz:Onp N k (mulV M c) (mulV M d) z)(h:∀e∈dD v n,Sep c d e):
 par z ((dD v n).map (mulS M))=par d (dD v n):=by
 by_cases hk:k=N
 ·subst hk
  rw[eN3 hz,dD0 hM]
 ·rw[<-dD0 hM d,<-bQ3]
  refine dT7 _ n (fun e he=>?_);rw[bQ3]at he;obtain⟨e',he',rfl⟩:=List.mem_map.1 he;exact eL1 hz (by have:=hz.hi;omega) (eQ5 hM (h e' he'))
theorem aN8(v:Vc):mulV 1 v=v:=by unfold mulV;rw[Int.one_mul,Int.one_mul]
theorem eD5(e:Sg):mulS 1 e=e:=by unfold mulS;rw[aN8,aN8]
theorem eY9{N k:Int}{c d z:Vc}(v:Nat->Vc)(n:Nat)(hz:Onp N k c d z)(h:∀e∈dD v n,Sep c d e):
 par z (dD v n)=par d (dD v n):=by
 have e:(dD v n).map (mulS 1)=dD v n:=by
  conv=>rhs;rw[<-List.map_id (dD v n)]
  exact List.map_congr_left (fun e _=>eD5 e)
 have:=cE3 (M:=1) Aq v n (by rw[aN8,aN8];exact hz) h
 rw[e]at this;exact this
theorem dH1{p:Vc}{l:List Sg}(h:∀e∈l,e.1.2<=p.2/\e.2.2<=p.2):par p l=false:=by
 unfold par;rw[<-aD0 l];refine jF (fun e he=>?_);rw[dW];unfold ray rayC;have:=h e he
 omega
def mZ(e:Sg)(h:Int):Prop:=(e.1.2<=h/\h<e.2.2)\/(e.2.2<=h/\h<e.1.2)
def pN(e:Sg):Int:=if e.1.2<e.2.2 then e.2.2-e.1.2 else e.1.2-e.2.2
def pK(e:Sg)(h:Int):Int:=if e.1.2<e.2.2 then h-e.1.2 else e.1.2-h
def pX(e:Sg)(h:Int):Int:=pN e*e.1.1+pK e h*(e.2.1-e.1.1)
theorem aO5{e:Sg}{h:Int}(hs:mZ e h):0<pN e/\0<=pK e h/\pK e h<=pN e/\pN e*(h-e.1.2)=pK e h*(e.2.2-e.1.2):=by
 unfold mZ at hs;unfold pN pK;split
 ·refine⟨Aa,Aa,Aa,Int.mul_comm _ _⟩
 ·refine⟨Aa,Aa,Aa,?_⟩
  rw[show e.1.2-e.2.2= -(e.2.2-e.1.2) from Aa,show e.1.2-h= -(h-e.1.2) from Aa,Int.neg_mul,Int.neg_mul,Int.mul_comm]
theorem aQ3{e:Sg}{p:Vc}:ray e p↔mZ e p.2/\pN e*p.1<pX e p.2:=by
 unfold ray rayC mZ pX pN pK;by_cases h:e.1.2<e.2.2
 ·rw[if_pos h,if_pos h]
  have k:X (dif e.2 e.1) (dif p e.1)=(e.2.2-e.1.2)*e.1.1+(p.2-e.1.2)*(e.2.1-e.1.1)- (e.2.2-e.1.2)*p.1:=CJ;rw[k];generalize (e.2.2-e.1.2)*e.1.1+(p.2-e.1.2)*(e.2.1-e.1.1)=a;generalize (e.2.2-e.1.2)*p.1=b;omega
 ·rw[if_neg h,if_neg h]
  have k:X (dif e.2 e.1) (dif p e.1)=(e.1.2-e.2.2)*p.1- ((e.1.2-e.2.2)*e.1.1+(e.1.2-p.2)*(e.2.1-e.1.1)):=CJ;rw[k];generalize (e.1.2-e.2.2)*e.1.1+(e.1.2-p.2)*(e.2.1-e.1.1)=a;generalize (e.1.2-e.2.2)*p.1=b;omega
def aft(h:Int)(f g:Sg):Prop:=mZ g h/\pN g*pX f h<pN f*pX g h
theorem dU4{N:Int}(hN:0<N)(e:Sg):pN (mulS N e)=N*pN e:=by
 unfold pN mulS mulV;exact QZ
theorem eZ8{N:Int}(hN:0<N)(e:Sg)(h:Int):pK (mulS N e) (N*h)=N*pK e h:=by
 unfold pK mulS mulV;exact QZ
theorem eZ5{N:Int}(hN:0<N)(e:Sg)(h:Int):pX (mulS N e) (N*h)=N*(N*pX e h):=by
 unfold pX;rw[dU4 hN,eZ8 hN];unfold mulS mulV;simp only;grind
theorem dK4{N:Int}(hN:0<N)(e:Sg)(h:Int):mZ (mulS N e) (N*h)↔mZ e h:=by
 unfold mZ mulS mulV;simp only;rw[(le_mul hN).1,(le_mul hN).2,(le_mul hN).1,(le_mul hN).2]
def pZ(f:Sg)(h:Int):Vc:=(pX f h,pN f*h)
theorem eQ0{h:Int}{f g:Sg}(hf:mZ f h):ray (mulS (pN f) g) (pZ f h)↔aft h f g:=by
 have hN:=(aO5 hf).1;rw[aQ3];unfold pZ aft;simp only;rw[dK4 hN,dU4 hN,eZ5 hN,Int.mul_assoc,(le_mul hN).2]
theorem pZ_on{h:Int}{f:Sg}(hf:mZ f h):Onp (pN f) (pK f h) (mulV (pN f) f.1) (mulV (pN f) f.2) (pZ f h):=by
 obtain⟨k1,k2,k3,k4⟩:=aO5 hf;refine⟨k1,k2,k3,?_,?_⟩
 ·unfold mulV pZ pX;simp only;grind
 ·unfold mulV pZ;simp only
  rw[<-Int.mul_sub,<-Int.mul_sub,k4,<-Int.mul_assoc,Int.mul_comm (pN f),Int.mul_assoc]
theorem dC1{h:Int}{f:Sg}(hf:mZ f h)(v:Nat->Vc)(n:Nat)(hs:∀g∈dD v n,Sep f.1 f.2 g):
 xr (dD v n) (fun g=>decB (aft h f g))=par f.2 (dD v n):=by
 rw[<-cE3 (aO5 hf).1 v n (pZ_on hf) hs];unfold par;rw[cW9];exact jF (fun g _=>dZ6 (eQ0 hf).symm)
theorem dJ0{m k y z:Int}(hm:0<=m)(hk:0<=k)(h0:0<m+k)(h:m*y+k*z=0):¬(0<y/\0<z)/\¬(y<0/\z<0):=by
 have s2:=sgn m y;have s3:=sgn k z
 generalize m*y=t2 at*;generalize k*z=t3 at*;omega
theorem fB7{h:Int}{f g:Sg}(hfo:bI f)(hgo:bI g)(hf:mZ f h)(hg:mZ g h)(hm:dG f g=0):pN g*pX f h≠pN f*pX g h:=by
 intro he;obtain⟨f1,f2,f3,f4⟩:=aO5 hf;obtain⟨g1,g2,g3,g4⟩:=aO5 hg
 have hne:f.1≠f.2:=by
  intro q;unfold mZ at hf;rw[q]at hf;omega
 have hne2:g.1≠g.2:=by
  intro q;unfold mZ at hg;rw[q]at hg;omega
 have hs:=rC hfo hgo hne hm;unfold pX at he
 have hS:(pN g-pK g h)*X (dif f.2 f.1) (dif g.1 f.1)+pK g h*X (dif f.2 f.1) (dif g.2 f.1)=0:=by
  have:pN f*((pN g-pK g h)*X (dif f.2 f.1) (dif g.1 f.1)+pK g h*X (dif f.2 f.1) (dif g.2 f.1))=0:=by
   unfold X dif;simp only;grind
  exact Ud
 have hG:(pN f-pK f h)*X (dif g.2 g.1) (dif f.1 g.1)+pK f h*X (dif g.2 g.1) (dif f.2 g.1)=0:=by
  have:pN g*((pN f-pK f h)*X (dif g.2 g.1) (dif f.1 g.1)+pK f h*X (dif g.2 g.1) (dif f.2 g.1))=0:=by
   unfold X dif;simp only;grind
  exact Ud
 have s1:=dJ0 Aa g2 Aa hS;have s2:=dJ0 Aa f2 Aa hG
 rcases hs with q|q|q|q|⟨q1,q2,q3,q4⟩
 ·exact s1.1 q
 ·exact s1.2 q
 ·exact s2.1 q
 ·exact s2.2 q
 have key:∃p,uH f g p/\Com f g p:=by
  have onf:∀p:Vc,X (dif f.2 f.1) (dif p f.1)=0->min f.1.2 f.2.2<=p.2->p.2<=h->eX f p:=fun p hx h1 h2=>by
   rw[gZ hfo];refine⟨(nO (d:=pN f) (k:=pK f p.2) (u:=f.1) (v:=f.2) (p:=p) f1 ?_ ?_ hne).2 ?_,hx⟩
   ·unfold mZ at hf
    exact TM
   ·unfold mZ at hf
    unfold pN pK;split<;>grind
   ·unfold mZ at hf
    unfold pN pK;split<;>omega
  have ong:∀p:Vc,X (dif g.2 g.1) (dif p g.1)=0->min g.1.2 g.2.2<=p.2->p.2<=h->eX g p:=fun p hx h1 h2=>by
   rw[gZ hgo];refine⟨(nO (d:=pN g) (k:=pK g p.2) (u:=g.1) (v:=g.2) (p:=p) g1 ?_ ?_ hne2).2 ?_,hx⟩
   ·unfold mZ at hg
    exact TM
   ·unfold mZ at hg
    unfold pN pK;split<;>grind
   ·unfold mZ at hg
    unfold pN pK;split<;>omega
  have x1:X (dif f.2 f.1) (dif f.1 f.1)=0:=by unfold X dif;simp
  have x2:X (dif f.2 f.1) (dif f.2 f.1)=0:=Gs;have y1:X (dif g.2 g.1) (dif g.1 g.1)=0:=by unfold X dif;simp
  have y2:X (dif g.2 g.1) (dif g.2 g.1)=0:=Gs;have hf':=hf
  have hg':=hg;unfold mZ at hf' hg';by_cases c1:min g.1.2 g.2.2<=min f.1.2 f.2.2
  ·by_cases c2:f.1.2<f.2.2
   ·exact⟨f.1, .inl rfl,onf _ x1 Aa Aa,ong _ q3 Aa Aa⟩
   ·exact⟨f.2, .inr (.inl rfl),onf _ x2 Aa Aa,ong _ q4 Aa Aa⟩
  ·by_cases c2:g.1.2<g.2.2
   ·exact⟨g.1, .inr (.inr (.inl rfl)),onf _ q1 Aa Aa,ong _ y1 Aa Aa⟩
   ·exact⟨g.2, .inr (.inr (.inr rfl)),onf _ q2 Aa Aa,ong _ y2 Aa Aa⟩
 have:=(tells hfo hgo).touch.1 key;omega
theorem bool_split(a b x y:Bool)(h:a=true->b=true->(x^^y)=true):(a&&b)=((a&& (b&&x))^^(b&& (a&&y))):=by
 cases a<;>cases b<;>simp at*
 ·cases x<;>cases y<;>simp at*
theorem aH5{a b c n m k:Int}(hn:0<n)(hm:0<m)(h1:n*a<b)(h2:m*b<n*c):m*a<c:=by
 have e1:m*(n*a)<m*b:=Int.mul_lt_mul_of_pos_left h1 hm;have e2:n*(m*a)<n*c:=by rw[Int.mul_left_comm];omega
 exact Int.lt_of_mul_lt_mul_left e2 Aa
theorem cT7{p:Vc}{vo vh:Nat->Vc}{no nh:Nat}(hoo:∀g∈dD vo no,bI g)(hho:∀f∈dD vh nh,bI f)
 (hm:∀f∈dD vh nh,∀g∈dD vo no,dG f g=0/\dG g f=0)(hnf:∀f∈dD vh nh,f.1≠f.2)(hng:∀g∈dD vo no,g.1≠g.2)
 (hin:∀f∈dD vh nh,par f.2 (dD vo no)=true)(hout:∀g∈dD vo no,par g.2 (dD vh nh)=false)
 (hp:par p (dD vh nh)=true):par p (dD vo no)=true:=by
 have hA:∀f∈dD vh nh,decB (ray f p)=true->xr (dD vo no) (fun g=>decB (ray g p)&&decB (aft p.2 f g))=true:=fun f hf hr=>by
  rw[dH,aQ3]at hr;rw[<-hin f hf,<-dC1 hr.1 vo no (fun g hg=>rC (hho f hf) (hoo g hg) (hnf f hf) (hm f hf g hg).1)];refine jF (fun g hg=>?_);by_cases ha:aft p.2 f g
  ·have:ray g p:=aQ3.2 ⟨ha.1,aH5 (k:=0) (aO5 hr.1).1 (aO5 ha.1).1 hr.2 ha.2⟩
   rw[dH.2 ha,dH.2 this];rfl
  ·rw[dW.2 ha,Bool.and_false]
 have hB:∀g∈dD vo no,decB (ray g p)=true->xr (dD vh nh) (fun f=>decB (ray f p)&&decB (aft p.2 g f))=false:=fun g hg hr=>by
  rw[dH,aQ3]at hr;rw[<-hout g hg,<-dC1 hr.1 vh nh (fun f hf=>rC (hoo g hg) (hho f hf) (hng g hg) (hm f hf g hg).2)];refine jF (fun f hf=>?_);by_cases ha:aft p.2 g f
  ·have:ray f p:=aQ3.2 ⟨ha.1,aH5 (k:=0) (aO5 hr.1).1 (aO5 ha.1).1 hr.2 ha.2⟩
   rw[dH.2 ha,dH.2 this];rfl
  ·rw[dW.2 ha,Bool.and_false]
 have hx:∀f∈dD vh nh,∀g∈dD vo no,decB (ray f p)=true->decB (ray g p)=true->(decB (aft p.2 f g)^^decB (aft p.2 g f))=true:=fun f hf g hg h1 h2=>by
  rw[dH,aQ3]at h1 h2;have hne:=fB7 (hho f hf) (hoo g hg) h1.1 h2.1 (hm f hf g hg).1;by_cases hlt:pN g*pX f p.2<pN f*pX g p.2
  ·rw[dH.2 (show aft p.2 f g from⟨h2.1,hlt⟩),dW.2 (show¬aft p.2 g f from fun q=>by have:=q.2;omega)];rfl
  ·rw[dW.2 (show¬aft p.2 f g from fun q=>hlt q.2),dH.2 (show aft p.2 g f from⟨h1.1,Aa⟩)];rfl
 have h1:xr (dD vh nh) (fun f=>xr (dD vo no) (fun g=>decB (ray f p)&&decB (ray g p)))=par p (dD vo no):=by
  rw[jF (g:=fun f=>decB (ray f p)&&par p (dD vo no)) (fun f _=>bW6 _ _ _)];rw[jF (g:=fun f=>par p (dD vo no)&&decB (ray f p)) (fun f _=>Bool.and_comm _ _),bW6];show(par p (dD vo no)&&par p (dD vh nh))=_;rw[hp,Bool.and_true]
 have h2:xr (dD vh nh) (fun f=>xr (dD vo no) (fun g=>decB (ray f p)&&decB (ray g p)))=
  (xr (dD vh nh) (fun f=>xr (dD vo no) (fun g=>decB (ray f p)&& (decB (ray g p)&&decB (aft p.2 f g))))^^xr (dD vh nh) (fun f=>xr (dD vo no) (fun g=>decB (ray g p)&& (decB (ray f p)&&decB (aft p.2 g f))))):=by
  rw[<-cA9];refine jF (fun f hf=>?_);rw[<-cA9];exact jF (fun g hg=>bool_split _ _ _ _ (hx f hf g hg))
 have h3:xr (dD vh nh) (fun f=>xr (dD vo no) (fun g=>decB (ray f p)&& (decB (ray g p)&&decB (aft p.2 f g))))=true:=by
  rw[jF (g:=fun f=>decB (ray f p)) (fun f hf=>?_)]
  ·exact hp
  ·rw[bW6]
   cases hr:decB (ray f p)
   ·rfl
   ·rw[hA f hf hr];rfl
 have h4:xr (dD vh nh) (fun f=>xr (dD vo no) (fun g=>decB (ray g p)&& (decB (ray f p)&&decB (aft p.2 g f))))=false:=by
  rw[dI9,<-aD0 (dD vo no)];refine jF (fun g hg=>?_);rw[bW6];cases hr:decB (ray g p)
  ·rfl
  ·rw[hB g hg hr];rfl
 rw[h3,h4]at h2;rw[<-h1,h2];rfl
end Go.Proofs.Led
