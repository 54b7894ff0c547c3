/-
  How often the ray from a point crosses a ring: along a segment that the ring keeps away from, the parity stays.
-/
import Derived.Test.YtkhhdojgbkophaaGreatDoorSP1
set_option linter.unusedVariables false
set_option linter.unusedSimpArgs false
set_option maxRecDepth 100000
set_option maxHeartbeats 4000000
noncomputable section
namespace Go.Proofs.Led
open Go Go.Proofs Go.Ab
section
variable{α β:Type}
def xr(l:List α)(f:α->Bool):Bool:=l.foldr (fun x b=>f x^^b) false
theorem fD4(f:α->Bool):xr [] f=false:=rfl
theorem nS(x:α)(l:List α)(f:α->Bool):xr (x::l) f=(f x^^xr l f):=rfl
theorem cY7(f:α->Bool):∀l m:List α,xr (l++m) f=(xr l f^^xr m f)
 | [],m=>by rw[List.nil_append,fD4];cases xr m f<;>rfl
 |x::l,m=>by
  rw[List.cons_append,nS,nS,cY7 f l m];cases f x<;>cases xr l f<;>cases xr m f<;>rfl
theorem jF{f g:α->Bool}:∀ {l:List α},(∀x∈l,f x=g x)->xr l f=xr l g
 | [],_=>rfl
 |x::l,h=>by rw[nS,nS,h x (by simp),jF (fun y hy=>h y (by simp[hy]))]
theorem aD0:∀l:List α,xr l (fun _=>false)=false
 | [] =>rfl
 |x::l=>by rw[nS,aD0 l];rfl
theorem cA9(f g:α->Bool):∀l:List α,xr l (fun x=>f x^^g x)=(xr l f^^xr l g)
 | [] =>rfl
 |x::l=>by
  rw[nS,nS,nS,cA9 f g l];cases f x<;>cases g x<;>cases xr l f<;>cases xr l g<;>rfl
theorem bW6(c:Bool)(f:α->Bool)(l:List α):xr l (fun x=>c&&f x)=(c&&xr l f):=by
 cases c
 ·exact aD0 l
 ·exact jF (fun x _=>Bool.true_and _)
theorem dI9(f:α->β->Bool)(m:List β):∀l:List α,xr l (fun x=>xr m (f x))=xr m (fun y=>xr l (fun x=>f x y))
 | [] =>(aD0 m).symm
 |x::l=>by
  rw[nS,dI9 f m l,<-cA9];exact jF (fun y _=>(nS x l (fun x=>f x y)).symm)
theorem cW9(g:β->α)(f:α->Bool):∀l:List β,xr (l.map g) f=xr l (fun x=>f (g x))
 | [] =>rfl
 |x::l=>by rw[List.map_cons,nS,nS,cW9 g f l]
end
def par(p:Vc)(l:List Sg):Bool:=xr l (fun e=>decB (ray e p))
theorem dZ6{p q:Prop}(h:p↔q):decB p=decB q:=fQ h
theorem fA6{p q:Vc}{e:Sg}(hpq:p.2<=q.2)(h:Sep p q e):(decB (ray e p)^^decB (ray e q))=(decB (inRt p q e.1)^^decB (inRt p q e.2)):=by
 have k:=eT3 hpq h;rw[<-dH (p:=ray e p),<-dH (p:=ray e q),<-dH (p:=inRt p q e.1),<-dH (p:=inRt p q e.2)]at k;revert k;cases decB (ray e p)<;>cases decB (ray e q)<;>cases decB (inRt p q e.1)<;>cases decB (inRt p q e.2)<;>simp
def dD(v:Nat->Vc)(n:Nat):List Sg:=(List.range n).map fun i=>(v (i% n),v ((i+1)% n))
theorem dL9:∀a b c d x y z:Bool,(a^^b)=(x^^y)->(c^^d)=(y^^z)->((a^^c)^^(b^^d))=(x^^z):=Aj
theorem cF0{p q:Vc}(hpq:p.2<=q.2)(u:Nat->Vc):∀k,(∀i,i<k->Sep p q (u i,u (i+1)))->
 (par p ((List.range k).map fun i=>(u i,u (i+1)))^^par q ((List.range k).map fun i=>(u i,u (i+1))))=(decB (inRt p q (u 0))^^decB (inRt p q (u k)))
 |0,_=>by
  show(false^^false)=_;cases decB (inRt p q (u 0))<;>rfl
 |k+1,h=>by
  have ih:=cF0 hpq u k (fun i hi=>h i Aa);have hk:=fA6 hpq (h k Aa)
  rw[List.range_succ,List.map_append];unfold par at*;rw[cY7,cY7];refine dL9 _ _ _ _ _ _ _ ih ?_;rw[<-hk];show(((decB (ray (u k,u (k+1)) p))^^false)^^((decB (ray (u k,u (k+1)) q))^^false))=_;rw[Bool.xor_false,Bool.xor_false]
theorem eN7:∀a b c:Bool,(a^^b)=(c^^c)->a=b:=Aj
theorem eE9{p q:Vc}(hpq:p.2<=q.2)(v:Nat->Vc)(n:Nat)(h:∀e∈dD v n,Sep p q e):par p (dD v n)=par q (dD v n):=by
 have k:=cF0 hpq (fun i=>v (i% n)) n (fun i hi=>h _ (List.mem_map.2 ⟨i,List.mem_range.2 hi,rfl⟩));have e:v (n% n)=v (0% n):=by rw[Nat.mod_self,Nat.zero_mod]
 simp only[e]at k;exact eN7 _ _ _ k
theorem dT7{p q:Vc}(v:Nat->Vc)(n:Nat)(h:∀e∈dD v n,Sep p q e):par p (dD v n)=par q (dD v n):=by
 rcases Int.le_total p.2 q.2 with hpq|hpq
 ·exact eE9 hpq v n h
 ·exact(eE9 hpq v n (fun e he=>dW0 (h e he))).symm
def mulV(N:Int)(v:Vc):Vc:=(N*v.1,N*v.2)
def mulS(N:Int)(e:Sg):Sg:=(mulV N e.1,mulV N e.2)
theorem bQ3(N:Int)(v:Nat->Vc)(n:Nat):dD (fun i=>mulV N (v i)) n=(dD v n).map (mulS N):=by
 unfold dD;rw[List.map_map];rfl
theorem cG9(N:Int)(a b c d:Vc):X (dif (mulV N a) (mulV N b)) (dif (mulV N c) (mulV N d))=N*N*X (dif a b) (dif c d):=by
 unfold X dif mulV;simp only;grind
theorem sq_pos{N:Int}(hN:0<N):0<N*N:=Int.mul_pos hN hN
theorem aM0{N x y:Int}(hN:0<N)(h:y=N*x):(0<y↔0<x)/\(y<0↔x<0)/\(y=0↔x=0):=by
 have s:=sgn N x;rw[<-h]at s;omega
theorem le_mul{N a b:Int}(hN:0<N):(N*a<=N*b↔a<=b)/\(N*a<N*b↔a<b):=
 ⟨⟨fun h=>Int.le_of_mul_le_mul_left h hN,fun h=>Int.mul_le_mul_of_nonneg_left h Aa⟩,⟨fun h=>Int.lt_of_mul_lt_mul_left h Aa,fun h=>Int.mul_lt_mul_of_pos_left h hN⟩⟩
theorem eL6{N:Int}(hN:0<N)(e:Sg)(p:Vc):ray (mulS N e) (mulV N p)↔ray e p:=by
 unfold ray rayC;have k:=aM0 (sq_pos hN) (cG9 N e.2 e.1 p e.1);show(N*e.1.2<=N*p.2/\N*p.2<N*e.2.2/\0<X (dif (mulV N e.2) (mulV N e.1)) (dif (mulV N p) (mulV N e.1)))\/(N*e.2.2<=N*p.2/\N*p.2<N*e.1.2/\X (dif (mulV N e.2) (mulV N e.1)) (dif (mulV N p) (mulV N e.1))<0)↔_;rw[(le_mul hN).1,(le_mul hN).2,(le_mul hN).1,(le_mul hN).2,k.1,k.2.1]
theorem dD0{N:Int}(hN:0<N)(p:Vc)(l:List Sg):par (mulV N p) (l.map (mulS N))=par p l:=by
 unfold par;rw[cW9];exact jF (fun e _=>dZ6 (eL6 hN e p))
theorem eQ5{N:Int}(hN:0<N){p q:Vc}{e:Sg}(h:Sep p q e):Sep (mulV N p) (mulV N q) (mulS N e):=by
 have k1:=aM0 (sq_pos hN) (cG9 N q p e.1 p);have k2:=aM0 (sq_pos hN) (cG9 N q p e.2 p)
 have k3:=aM0 (sq_pos hN) (cG9 N e.2 e.1 p e.1);have k4:=aM0 (sq_pos hN) (cG9 N e.2 e.1 q e.1)
 unfold Sep at*;unfold mulS;simp only;rw[k1.1,k1.2.1,k1.2.2,k2.1,k2.2.1,k2.2.2,k3.1,k3.2.1,k3.2.2,k4.1,k4.2.1,k4.2.2];exact h
theorem cE3{N M k:Int}(hM:0<M){c d z:Vc}(v:Nat->Vc)(n:Nat)(hz:Onp N k (mulV M c) (mulV M d) z)(h:∀e∈dD v n,Sep c d e):
 par z ((dD v n).map (mulS M))=par d (dD v n):=by
 by_cases hk:k=N
 ·subst hk
  rw[eN3 hz,dD0 hM]
 ·rw[<-dD0 hM d,<-bQ3]
  refine dT7 _ n (fun e he=>?_);rw[bQ3]at he;obtain⟨e',he',rfl⟩:=List.mem_map.1 he;exact eL1 hz (by have:=hz.hi;omega) (eQ5 hM (h e' he'))
theorem aN8(v:Vc):mulV 1 v=v:=by unfold mulV;rw[Int.one_mul,Int.one_mul]
theorem eD5(e:Sg):mulS 1 e=e:=by unfold mulS;rw[aN8,aN8]
theorem eY9{N k:Int}{c d z:Vc}(v:Nat->Vc)(n:Nat)(hz:Onp N k c d z)(h:∀e∈dD v n,Sep c d e):
 par z (dD v n)=par d (dD v n):=by
 have e:(dD v n).map (mulS 1)=dD v n:=by
  conv=>rhs;rw[<-List.map_id (dD v n)]
  exact List.map_congr_left (fun e _=>eD5 e)
 have:=cE3 (M:=1) Aj v n (by rw[aN8,aN8];exact hz) h
 rw[e]at this;exact this
theorem dH1{p:Vc}{l:List Sg}(h:∀e∈l,e.1.2<=p.2/\e.2.2<=p.2):par p l=false:=by
 unfold par;rw[<-aD0 l];refine jF (fun e he=>?_);rw[dW];unfold ray rayC;have:=h e he
 omega
def mZ(e:Sg)(h:Int):Prop:=(e.1.2<=h/\h<e.2.2)\/(e.2.2<=h/\h<e.1.2)
def pN(e:Sg):Int:=if e.1.2<e.2.2 then e.2.2-e.1.2 else e.1.2-e.2.2
def pK(e:Sg)(h:Int):Int:=if e.1.2<e.2.2 then h-e.1.2 else e.1.2-h
def pX(e:Sg)(h:Int):Int:=pN e*e.1.1+pK e h*(e.2.1-e.1.1)
theorem aO5{e:Sg}{h:Int}(hs:mZ e h):0<pN e/\0<=pK e h/\pK e h<=pN e/\pN e*(h-e.1.2)=pK e h*(e.2.2-e.1.2):=by
 unfold mZ at hs;unfold pN pK;split
 ·refine⟨Aa,Aa,Aa,Int.mul_comm _ _⟩
 ·refine⟨Aa,Aa,Aa,?_⟩
  rw[show e.1.2-e.2.2= -(e.2.2-e.1.2) from Aa,show e.1.2-h= -(h-e.1.2) from Aa,Int.neg_mul,Int.neg_mul,Int.mul_comm]
theorem aQ3{e:Sg}{p:Vc}:ray e p↔mZ e p.2/\pN e*p.1<pX e p.2:=by
 unfold ray rayC mZ pX pN pK;by_cases h:e.1.2<e.2.2
 ·rw[if_pos h,if_pos h]
  have k:X (dif e.2 e.1) (dif p e.1)=(e.2.2-e.1.2)*e.1.1+(p.2-e.1.2)*(e.2.1-e.1.1)- (e.2.2-e.1.2)*p.1:=Bq;rw[k];generalize (e.2.2-e.1.2)*e.1.1+(p.2-e.1.2)*(e.2.1-e.1.1)=a;generalize (e.2.2-e.1.2)*p.1=b;omega
 ·rw[if_neg h,if_neg h]
  have k:X (dif e.2 e.1) (dif p e.1)=(e.1.2-e.2.2)*p.1- ((e.1.2-e.2.2)*e.1.1+(e.1.2-p.2)*(e.2.1-e.1.1)):=Bq;rw[k];generalize (e.1.2-e.2.2)*e.1.1+(e.1.2-p.2)*(e.2.1-e.1.1)=a;generalize (e.1.2-e.2.2)*p.1=b;omega
def aft(h:Int)(f g:Sg):Prop:=mZ g h/\pN g*pX f h<pN f*pX g h
theorem dU4{N:Int}(hN:0<N)(e:Sg):pN (mulS N e)=N*pN e:=by
 unfold pN mulS mulV;exact Lj
theorem eZ8{N:Int}(hN:0<N)(e:Sg)(h:Int):pK (mulS N e) (N*h)=N*pK e h:=by
 unfold pK mulS mulV;exact Lj
theorem eZ5{N:Int}(hN:0<N)(e:Sg)(h:Int):pX (mulS N e) (N*h)=N*(N*pX e h):=by
 unfold pX;rw[dU4 hN,eZ8 hN];unfold mulS mulV;simp only;grind
theorem dK4{N:Int}(hN:0<N)(e:Sg)(h:Int):mZ (mulS N e) (N*h)↔mZ e h:=by
 unfold mZ mulS mulV;simp only;rw[(le_mul hN).1,(le_mul hN).2,(le_mul hN).1,(le_mul hN).2]
def pZ(f:Sg)(h:Int):Vc:=(pX f h,pN f*h)
theorem eQ0{h:Int}{f g:Sg}(hf:mZ f h):ray (mulS (pN f) g) (pZ f h)↔aft h f g:=by
 have hN:=(aO5 hf).1;rw[aQ3];unfold pZ aft;simp only;rw[dK4 hN,dU4 hN,eZ5 hN,Int.mul_assoc,(le_mul hN).2]
theorem pZ_on{h:Int}{f:Sg}(hf:mZ f h):Onp (pN f) (pK f h) (mulV (pN f) f.1) (mulV (pN f) f.2) (pZ f h):=by
 obtain⟨k1,k2,k3,k4⟩:=aO5 hf;refine⟨k1,k2,k3,?_,?_⟩
 ·unfold mulV pZ pX;simp only;grind
 ·unfold mulV pZ;simp only
  rw[<-Int.mul_sub,<-Int.mul_sub,k4,<-Int.mul_assoc,Int.mul_comm (pN f),Int.mul_assoc]
theorem dC1{h:Int}{f:Sg}(hf:mZ f h)(v:Nat->Vc)(n:Nat)(hs:∀g∈dD v n,Sep f.1 f.2 g):
 xr (dD v n) (fun g=>decB (aft h f g))=par f.2 (dD v n):=by
 rw[<-cE3 (aO5 hf).1 v n (pZ_on hf) hs];unfold par;rw[cW9];exact jF (fun g _=>dZ6 (eQ0 hf).symm)
theorem dJ0{m k y z:Int}(hm:0<=m)(hk:0<=k)(h0:0<m+k)(h:m*y+k*z=0):¬(0<y/\0<z)/\¬(y<0/\z<0):=by
 have s2:=sgn m y;have s3:=sgn k z
 generalize m*y=t2 at*;generalize k*z=t3 at*;omega
theorem fB7{h:Int}{f g:Sg}(hfo:bI f)(hgo:bI g)(hf:mZ f h)(hg:mZ g h)(hm:dG f g=0):pN g*pX f h≠pN f*pX g h:=by
 intro he;obtain⟨f1,f2,f3,f4⟩:=aO5 hf;obtain⟨g1,g2,g3,g4⟩:=aO5 hg
 have hne:f.1≠f.2:=by
  intro q;unfold mZ at hf;rw[q]at hf;omega
 have hne2:g.1≠g.2:=by
  intro q;unfold mZ at hg;rw[q]at hg;omega
 have hs:=rC hfo hgo hne hm;unfold pX at he
 have hS:(pN g-pK g h)*X (dif f.2 f.1) (dif g.1 f.1)+pK g h*X (dif f.2 f.1) (dif g.2 f.1)=0:=by
  have:pN f*((pN g-pK g h)*X (dif f.2 f.1) (dif g.1 f.1)+pK g h*X (dif f.2 f.1) (dif g.2 f.1))=0:=by
   unfold X dif;simp only;grind
  exact NF
 have hG:(pN f-pK f h)*X (dif g.2 g.1) (dif f.1 g.1)+pK f h*X (dif g.2 g.1) (dif f.2 g.1)=0:=by
  have:pN g*((pN f-pK f h)*X (dif g.2 g.1) (dif f.1 g.1)+pK f h*X (dif g.2 g.1) (dif f.2 g.1))=0:=by
   unfold X dif;simp only;grind
  exact NF
 have s1:=dJ0 Aa g2 Aa hS;have s2:=dJ0 Aa f2 Aa hG
 rcases hs with q|q|q|q|⟨q1,q2,q3,q4⟩
 ·exact s1.1 q
 ·exact s1.2 q
 ·exact s2.1 q
 ·exact s2.2 q
 have key:∃p,uH f g p/\Com f g p:=by
  have onf:∀p:Vc,X (dif f.2 f.1) (dif p f.1)=0->min f.1.2 f.2.2<=p.2->p.2<=h->eX f p:=fun p hx h1 h2=>by
   rw[gZ hfo];refine⟨(nO (d:=pN f) (k:=pK f p.2) (u:=f.1) (v:=f.2) (p:=p) f1 ?_ ?_ hne).2 ?_,hx⟩
   ·unfold mZ at hf
    exact Nw
   ·unfold mZ at hf
    unfold pN pK;split<;>grind
   ·unfold mZ at hf
    unfold pN pK;split<;>omega
  have ong:∀p:Vc,X (dif g.2 g.1) (dif p g.1)=0->min g.1.2 g.2.2<=p.2->p.2<=h->eX g p:=fun p hx h1 h2=>by
   rw[gZ hgo];refine⟨(nO (d:=pN g) (k:=pK g p.2) (u:=g.1) (v:=g.2) (p:=p) g1 ?_ ?_ hne2).2 ?_,hx⟩
   ·unfold mZ at hg
    exact Nw
   ·unfold mZ at hg
    unfold pN pK;split<;>grind
   ·unfold mZ at hg
    unfold pN pK;split<;>omega
  have x1:X (dif f.2 f.1) (dif f.1 f.1)=0:=by unfold X dif;simp
  have x2:X (dif f.2 f.1) (dif f.2 f.1)=0:=DZ;have y1:X (dif g.2 g.1) (dif g.1 g.1)=0:=by unfold X dif;simp
  have y2:X (dif g.2 g.1) (dif g.2 g.1)=0:=DZ;have hf':=hf
  have hg':=hg;unfold mZ at hf' hg';by_cases c1:min g.1.2 g.2.2<=min f.1.2 f.2.2
  ·by_cases c2:f.1.2<f.2.2
   ·exact⟨f.1, .inl rfl,onf _ x1 Aa Aa,ong _ q3 Aa Aa⟩
   ·exact⟨f.2, .inr (.inl rfl),onf _ x2 Aa Aa,ong _ q4 Aa Aa⟩
  ·by_cases c2:g.1.2<g.2.2
   ·exact⟨g.1, .inr (.inr (.inl rfl)),onf _ q1 Aa Aa,ong _ y1 Aa Aa⟩
   ·exact⟨g.2, .inr (.inr (.inr rfl)),onf _ q2 Aa Aa,ong _ y2 Aa Aa⟩
 have:=(tells hfo hgo).touch.1 key;omega
theorem bool_split(a b x y:Bool)(h:a=true->b=true->(x^^y)=true):(a&&b)=((a&& (b&&x))^^(b&& (a&&y))):=by
 cases a<;>cases b<;>simp at*
 ·cases x<;>cases y<;>simp at*
theorem aH5{a b c n m k:Int}(hn:0<n)(hm:0<m)(h1:n*a<b)(h2:m*b<n*c):m*a<c:=by
 have e1:m*(n*a)<m*b:=Int.mul_lt_mul_of_pos_left h1 hm;have e2:n*(m*a)<n*c:=by rw[Int.mul_left_comm];omega
 exact Int.lt_of_mul_lt_mul_left e2 Aa
theorem cT7{p:Vc}{vo vh:Nat->Vc}{no nh:Nat}(hoo:∀g∈dD vo no,bI g)(hho:∀f∈dD vh nh,bI f)
 (hm:∀f∈dD vh nh,∀g∈dD vo no,dG f g=0/\dG g f=0)(hnf:∀f∈dD vh nh,f.1≠f.2)(hng:∀g∈dD vo no,g.1≠g.2)
 (hin:∀f∈dD vh nh,par f.2 (dD vo no)=true)(hout:∀g∈dD vo no,par g.2 (dD vh nh)=false)
 (hp:par p (dD vh nh)=true):par p (dD vo no)=true:=by
 have hA:∀f∈dD vh nh,decB (ray f p)=true->xr (dD vo no) (fun g=>decB (ray g p)&&decB (aft p.2 f g))=true:=fun f hf hr=>by
  rw[dH,aQ3]at hr;rw[<-hin f hf,<-dC1 hr.1 vo no (fun g hg=>rC (hho f hf) (hoo g hg) (hnf f hf) (hm f hf g hg).1)];refine jF (fun g hg=>?_);by_cases ha:aft p.2 f g
  ·have:ray g p:=aQ3.2 ⟨ha.1,aH5 (k:=0) (aO5 hr.1).1 (aO5 ha.1).1 hr.2 ha.2⟩
   rw[dH.2 ha,dH.2 this];rfl
  ·rw[dW.2 ha,Bool.and_false]
 have hB:∀g∈dD vo no,decB (ray g p)=true->xr (dD vh nh) (fun f=>decB (ray f p)&&decB (aft p.2 g f))=false:=fun g hg hr=>by
  rw[dH,aQ3]at hr;rw[<-hout g hg,<-dC1 hr.1 vh nh (fun f hf=>rC (hoo g hg) (hho f hf) (hng g hg) (hm f hf g hg).2)];refine jF (fun f hf=>?_);by_cases ha:aft p.2 g f
  ·have:ray f p:=aQ3.2 ⟨ha.1,aH5 (k:=0) (aO5 hr.1).1 (aO5 ha.1).1 hr.2 ha.2⟩
   rw[dH.2 ha,dH.2 this];rfl
  ·rw[dW.2 ha,Bool.and_false]
 have hx:∀f∈dD vh nh,∀g∈dD vo no,decB (ray f p)=true->decB (ray g p)=true->(decB (aft p.2 f g)^^decB (aft p.2 g f))=true:=fun f hf g hg h1 h2=>by
  rw[dH,aQ3]at h1 h2;have hne:=fB7 (hho f hf) (hoo g hg) h1.1 h2.1 (hm f hf g hg).1;by_cases hlt:pN g*pX f p.2<pN f*pX g p.2
  ·rw[dH.2 (show aft p.2 f g from⟨h2.1,hlt⟩),dW.2 (show¬aft p.2 g f from fun q=>by have:=q.2;omega)];rfl
  ·rw[dW.2 (show¬aft p.2 f g from fun q=>hlt q.2),dH.2 (show aft p.2 g f from⟨h1.1,Aa⟩)];rfl
 have h1:xr (dD vh nh) (fun f=>xr (dD vo no) (fun g=>decB (ray f p)&&decB (ray g p)))=par p (dD vo no):=by
  rw[jF (g:=fun f=>decB (ray f p)&&par p (dD vo no)) (fun f _=>bW6 _ _ _)];rw[jF (g:=fun f=>par p (dD vo no)&&decB (ray f p)) (fun f _=>Bool.and_comm _ _),bW6];show(par p (dD vo no)&&par p (dD vh nh))=_;rw[hp,Bool.and_true]
 have h2:xr (dD vh nh) (fun f=>xr (dD vo no) (fun g=>decB (ray f p)&&decB (ray g p)))=
  (xr (dD vh nh) (fun f=>xr (dD vo no) (fun g=>decB (ray f p)&& (decB (ray g p)&&decB (aft p.2 f g))))^^xr (dD vh nh) (fun f=>xr (dD vo no) (fun g=>decB (ray g p)&& (decB (ray f p)&&decB (aft p.2 g f))))):=by
  rw[<-cA9];refine jF (fun f hf=>?_);rw[<-cA9];exact jF (fun g hg=>bool_split _ _ _ _ (hx f hf g hg))
 have h3:xr (dD vh nh) (fun f=>xr (dD vo no) (fun g=>decB (ray f p)&& (decB (ray g p)&&decB (aft p.2 f g))))=true:=by
  rw[jF (g:=fun f=>decB (ray f p)) (fun f hf=>?_)]
  ·exact hp
  ·rw[bW6]
   cases hr:decB (ray f p)
   ·rfl
   ·rw[hA f hf hr];rfl
 have h4:xr (dD vh nh) (fun f=>xr (dD vo no) (fun g=>decB (ray g p)&& (decB (ray f p)&&decB (aft p.2 g f))))=false:=by
  rw[dI9,<-aD0 (dD vo no)];refine jF (fun g hg=>?_);rw[bW6];cases hr:decB (ray g p)
  ·rfl
  ·rw[hB g hg hr];rfl
 rw[h3,h4]at h2;rw[<-h1,h2];rfl
theorem eW1{c d v:Vc}(hne:c≠d)(hb:Bb (c,d) v)(hx:X (dif d c) (dif v c)=0):∃N k,Onp N k c d v:=by
 unfold Bb at hb;unfold X dif at hx;simp only at hb hx;by_cases h1:c.1=d.1
 ·have h2:c.2≠d.2:=fun h=>hne (Prod.ext h1 h)
  have e0:v.1=c.1:=Aa;by_cases h3:c.2<d.2
  ·exact⟨d.2-c.2,v.2-c.2,Aa,Aa,Aa,C9,Int.mul_comm _ _⟩
  ·exact⟨c.2-d.2,c.2-v.2,Aa,Aa,Aa,C9,Gw⟩
 ·by_cases h3:c.1<d.1
  ·exact⟨d.1-c.1,v.1-c.1,Aa,Aa,Aa,Int.mul_comm _ _,Gw⟩
  ·exact⟨c.1-d.1,c.1-v.1,Aa,Aa,Aa,Gw,Gw⟩
theorem cX7{s:Sg}(hs:bI s)(hne:s.1≠s.2){v:Vc}(h:eX s v):∃N k,Onp N k s.1 s.2 v:=by
 obtain⟨h1,h2⟩:=(gZ hs).1 h;exact eW1 hne h1 h2
theorem eP6{s t:Sg}(hs:bI s)(ht:bI t)(h1:s.1≠s.2)(h2:t.1≠t.2)(hd:xD s t=0)(hB:xB s t=0){v:Vc}(hv:Com s t v):∃p,uH s t p/\Com s t p:=by
 obtain⟨x1,x2,x3,x4⟩:=vK s t;have hw:=bZ7 h1;have la:onL (dif s.2 s.1) s.1 s.1:=by unfold onL X dif;simp
 have lb:onL (dif s.2 s.1) s.1 s.2:=Dw;have lc:onL (dif s.2 s.1) s.1 t.1:=by unfold onL;rw[x1,hB];rfl
 have ld:onL (dif s.2 s.1) s.1 t.2:=by unfold onL;rw[x2,hB,hd];rfl
 have lv:onL (dif s.2 s.1) s.1 v:=((gZ hs).1 hv.1).2;have lt':∀p,onL (dif s.2 s.1) s.1 p->X (dif t.2 t.1) (dif p t.1)=0:=fun p hp=>Ih
 have hf:∀p,onL (dif s.2 s.1) s.1 p->(Com s t p↔(min (co (dif s.2 s.1) s.1) (co (dif s.2 s.1) s.2)<=co (dif s.2 s.1) p/\co (dif s.2 s.1) p<=max (co (dif s.2 s.1) s.1) (co (dif s.2 s.1) s.2))/\
  (min (co (dif s.2 s.1) t.1) (co (dif s.2 s.1) t.2)<=co (dif s.2 s.1) p/\co (dif s.2 s.1) p<=max (co (dif s.2 s.1) t.1) (co (dif s.2 s.1) t.2))):=fun p hp=>by
  exact KU
 have hv':=(hf v lv).1 hv;generalize co (dif s.2 s.1) v=y at*;rcases(show(co (dif s.2 s.1) s.1=max (min (co (dif s.2 s.1) s.1) (co (dif s.2 s.1) s.2)) (min (co (dif s.2 s.1) t.1) (co (dif s.2 s.1) t.2)))\/(co (dif s.2 s.1) s.2=max (min (co (dif s.2 s.1) s.1) (co (dif s.2 s.1) s.2)) (min (co (dif s.2 s.1) t.1) (co (dif s.2 s.1) t.2)))\/(co (dif s.2 s.1) t.1=max (min (co (dif s.2 s.1) s.1) (co (dif s.2 s.1) s.2)) (min (co (dif s.2 s.1) t.1) (co (dif s.2 s.1) t.2)))\/(co (dif s.2 s.1) t.2=max (min (co (dif s.2 s.1) s.1) (co (dif s.2 s.1) s.2)) (min (co (dif s.2 s.1) t.1) (co (dif s.2 s.1) t.2))) from Aa)with h|h|h|h
 ·exact⟨s.1, .inl rfl,(hf _ la).2 Aa⟩
 ·exact⟨s.2, .inr (.inl rfl),(hf _ lb).2 Aa⟩
 ·exact⟨t.1, .inr (.inr (.inl rfl)),(hf _ lc).2 Aa⟩
 ·exact⟨t.2, .inr (.inr (.inr rfl)),(hf _ ld).2 Aa⟩
theorem eK6{N k:Int}{c d v:Vc}(h:Onp N k c d v)(u w:Vc):(0<X u (dif c w)->0<X u (dif d w)->0<X u (dif v w))/\(X u (dif c w)<0->X u (dif d w)<0->X u (dif v w)<0):=by
 obtain⟨h1,h2,h3,h4,h5⟩:=h;have e:N*X u (dif v w)=(N-k)*X u (dif c w)+k*X u (dif d w):=Bq;have s1:=sgn N (X u (dif v w))
 have s2:=sgn (N-k) (X u (dif c w));have s3:=sgn k (X u (dif d w))
 rw[e]at s1;generalize (N-k)*X u (dif c w)=t1 at*;generalize k*X u (dif d w)=t2 at*;omega
theorem eZ7{s t:Sg}(hs:bI s)(ht:bI t)(h1:s.1≠s.2)(h2:t.1≠t.2)(hm:dG s t=0){v:Vc}(a:eX s v)(b:eX t v):False:=by
 obtain⟨N,k,ha⟩:=cX7 hs h1 a;obtain⟨M,j,hb⟩:=cX7 ht h2 b;have xa:=((gZ hs).1 a).2;have xb:=((gZ ht).1 b).2
 have q1:=eK6 hb (dif s.2 s.1) s.1;have q2:=eK6 ha (dif t.2 t.1) t.1
 rcases rC hs ht h1 hm with q|q|q|q|q
 ·have:=q1.1 q.1 q.2;omega
 ·have:=q1.2 q.1 q.2;omega
 ·have:=q2.1 q.1 q.2;omega
 ·have:=q2.2 q.1 q.2;omega
 ·obtain⟨x1,x2,x3,x4⟩:=vK s t
  have:=(tells hs ht).touch.1 (eP6 hs ht h1 h2 Aa Aa ⟨a,b⟩);omega
theorem dM4{s t:Sg}:dG s t=0\/dG s t=1\/dG s t=2\/dG s t=3:=by
 unfold dG kQ;split
 ·exact .inl rfl
 ·split
  ·unfold lines
   simp only;split
   ·exact .inl rfl
   ·show aH6 _ _ _=0\/_
    unfold aH6;split<;>simp
  ·split
   ·exact .inr (.inl rfl)
   ·split
    ·exact .inr (.inl rfl)
    ·split
     ·exact .inl rfl
     ·unfold yD
      split
      ·exact .inr (.inl rfl)
      ·split
       ·exact .inr (.inr (.inr rfl))
       ·exact .inl rfl
theorem eD0{s t:Sg}{p:Vc}:uH s t p/\Com s t p↔uH t s p/\Com t s p:=by
 unfold uH Com;constructor
 ·rintro⟨h|h|h|h,a,b⟩<;>simp[h,a,b] <;>(subst h;simp[a,b])
 ·rintro⟨h|h|h|h,a,b⟩<;>simp[h,a,b] <;>(subst h;simp[a,b])
theorem bS4{s t:Sg}(hs:bI s)(ht:bI t):dG s t=0↔(¬∃p,uH s t p/\Com s t p)/\¬zT9 s t:=by
 have h:=tells hs ht;have hv:=dM4 (s:=s) (t:=t)
 constructor
 ·intro h0
  have e:¬∃p,uH s t p/\Com s t p:=fun q=>by have:=h.touch.1 q;omega
  exact⟨e,fun q=>by have:=h.cross.2 ⟨e,q⟩;omega⟩
 ·rintro⟨h1,h2⟩
  rcases hv with q|q|q|q
  ·exact q
  ·exact absurd (h.touch.2 (.inl q)) h1
  ·exact absurd (h.cross.1 q).2 h2
  ·exact absurd (h.touch.2 (.inr q)) h1
theorem dS2{s t:Sg}(hs:bI s)(ht:bI t)(h:dG s t=0):dG t s=0:=by
 rw[bS4 hs ht]at h;rw[bS4 ht hs];refine⟨fun⟨p,hp⟩=>h.1 ⟨p,eD0.1 hp⟩,fun q=>h.2 ?_⟩;exact⟨q.2,q.1⟩
theorem vV{r:Rg}(h:3<=r.length):bF r=dD (fun i=>r.getD i z0) r.length:=by
 unfold bF dD;rw[if_neg Aa];refine List.map_congr_left (fun i hi=>?_);have:=List.mem_range.1 hi
 show(r.getD i z0,iU r i)=_;rw[Nat.mod_eq_of_lt this];rfl
theorem bC9{r:Rg}(h:3<=r.length){e:Sg}:e∈bF r↔∃i,i<r.length/\e=aJ4 r i:=by
 unfold bF;rw[if_neg Aa,List.mem_map];constructor
 ·rintro⟨i,hi,rfl⟩;exact⟨i,List.mem_range.1 hi,rfl⟩
 ·rintro⟨i,hi,rfl⟩;exact⟨i,List.mem_range.2 hi,rfl⟩
theorem vN{r:Rg}(hn:bR7 r){v:Vc}(hv:v∈r):Sm4 v:=by
 have:=hn v hv;rw[within_iff Aa]at this;unfold Sm4;omega
theorem aG8{r:Rg}(h:dM r){e:Sg}(he:e∈bF r):e.1≠e.2:=by
 obtain⟨i,hi,rfl⟩:=(bC9 h.1).1 he;intro hq;have ht:=h.2.2.2.2.1 i hi;apply ht;have h1:=vN h.2.2.1 (aE1 hi)
 have h2:=vN h.2.2.1 (v:=mY r i) (aE1 (Nat.mod_lt _ Aa));have h3:=vN h.2.2.1 (bA6 hi)
 rw[zH h2 h1 h3];have hq':r.getD i z0=iU r i:=hq;rw[hq'];have:X (dif (iU r i) (mY r i)) (dif (iU r i) (mY r i))=0:=by unfold X;rw[Int.mul_comm];omega
 rw[this];rfl
theorem bH8{p:Vc}(hp:Sm4 p):∀ {l:List Sg} {b:Bool},(∀e∈l,bI e)->(∀e∈l,¬eX e p)->lU (p.1,p.2,1) l b=if(b^^par p l)=true then 2 else 0
 | [],b,_,_=>by
   rw[qB];show _=if(b^^false)=true then 2 else 0
   rw[Bool.xor_false]
 |e::l,b,h1,h2=>by
  have he:=h1 e Ae;have hn:=h2 e Ae
  have hno:¬onE (p.1,p.2,1) e:=fun q=>hn ((cC3 hp he).1 q);have hpar:par p (e::l)=(decB (ray e p)^^par p l):=rfl
  have ih:=fun b=>bH8 hp (l:=l) (b:=b) (fun x hx=>h1 x Bh) (fun x hx=>h2 x Bh);by_cases hf:rW (p.1,p.2,1) e
  ·rw[rE hno hf,ih,hpar,dH.2 (show ray e p from(dD7 hp he hn).1 hf)]
   cases b<;>cases par p l<;>rfl
  ·rw[jD hno hf,ih,hpar,dW.2 (show¬ray e p from fun q=>hf ((dD7 hp he hn).2 q))]
   cases b<;>cases par p l<;>rfl
def onR(r:Rg)(v:Vc):Prop:=∃e∈bF r,eX e v
theorem nZ{r:Rg}(h:dM r){v:Vc}(hv:Sm4 v):fJ r v=1↔onR r v:=by
 rw[aC1 (pY.2 hv),aD9 h (bC7 hv),yZ];constructor
 ·rintro⟨e,he,q⟩;exact⟨e,he,(cC3 hv (jO h.2.2.1 he)).1 q⟩
 ·rintro⟨e,he,q⟩;exact⟨e,he,(cC3 hv (jO h.2.2.1 he)).2 q⟩
theorem zS9{r:Rg}(h:dM r){v:Vc}(hv:Sm4 v)(hn:¬onR r v):fJ r v=if par v (bF r)=true then 2 else 0:=by
 rw[aC1 (pY.2 hv),aD9 h (bC7 hv),bH8 hv (fun e he=>jO h.2.2.1 he) (fun e he q=>hn ⟨e,he,q⟩),Bool.false_xor]
theorem zD{r:Rg}(h:dM r){v:Vc}(hv:Sm4 v):fJ r v=2↔¬onR r v/\par v (bF r)=true:=by
 constructor
 ·intro h2
  have hn:¬onR r v:=fun q=>by have:=(nZ h hv).2 q;omega
  refine⟨hn,?_⟩;rw[zS9 h hv hn]at h2;split at h2
  ·assumption
  ·omega
 ·rintro⟨h1,h2⟩
  rw[zS9 h hv h1,if_pos h2]
theorem aE8{r:Rg}(h:dM r){v:Vc}(hv:Sm4 v):fJ r v=0↔¬onR r v/\par v (bF r)=false:=by
 constructor
 ·intro h2
  have hn:¬onR r v:=fun q=>by have:=(nZ h hv).2 q;omega
  refine⟨hn,?_⟩;rw[zS9 h hv hn]at h2;split at h2
  ·omega
  ·simpa using ‹¬par v (bF r)=true›
 ·rintro⟨h1,h2⟩
  rw[zS9 h hv h1,h2];rfl
structure Apart(a b:Rg):Prop where
 oa:dM a
 ob:dM b
 ap:uV a b
theorem Apart.symm{a b:Rg}(h:Apart a b):Apart b a:=⟨h.ob,h.oa,fun x hx y hy=>dS2 (jO h.oa.2.2.1 hy) (jO h.ob.2.2.1 hx) (h.ap y hy x hx)⟩
theorem Apart.sep{a b:Rg}(h:Apart a b){f g:Sg}(hf:f∈bF a)(hg:g∈bF b):Sep f.1 f.2 g:=
 rC (jO h.oa.2.2.1 hf) (jO h.ob.2.2.1 hg) (aG8 h.oa hf) (h.ap f hf g hg)
theorem Apart.off{a b:Rg}(h:Apart a b){v:Vc}(hv:onR a v):¬onR b v:=by
 rintro⟨g,hg,q⟩;obtain⟨f,hf,p⟩:=hv;exact eZ7 (jO h.oa.2.2.1 hf) (jO h.ob.2.2.1 hg) (aG8 h.oa hf) (aG8 h.ob hg) (h.ap f hf g hg) p q
theorem Apart.along{a b:Rg}(h:Apart a b){f:Sg}(hf:f∈bF a){v:Vc}(hv:eX f v):par v (bF b)=par f.2 (bF b):=by
 obtain⟨N,k,hk⟩:=cX7 (jO h.oa.2.2.1 hf) (aG8 h.oa hf) hv;rw[vV h.ob.1];exact eY9 _ _ hk (fun g hg=>h.sep hf (by rw[vV h.ob.1];exact hg))
theorem vert_onR{r:Rg}(h:dM r){v:Vc}(hv:v∈r):onR r v:=by
 obtain⟨e,he,rfl⟩:=bC8 h.1 hv;exact⟨e,he,rH (jO h.2.2.1 he)⟩
theorem vH{r:Rg}(h:dM r){e:Sg}(he:e∈bF r):e.1∈r/\e.2∈r:=by
 obtain⟨i,hi,rfl⟩:=(bC9 h.1).1 he;exact⟨aE1 hi,bA6 hi⟩
theorem Apart.const{a b:Rg}(h:Apart a b):∀i,i<a.length->par (a.getD i z0) (bF b)=par (a.getD 0 z0) (bF b):=by
 intro i
 induction i with
 |zero=>intro _;rfl
 |succ i ih=>
  intro hi;rw[<-ih Aa];have he:aJ4 a i∈bF a:=(bC9 h.oa.1).2 ⟨i,Aa,rfl⟩;have k:=h.along he (rH (jO h.oa.2.2.1 he))
  have e2:(aJ4 a i).2=a.getD (i+1) z0:=by
   show iU a i=_;unfold iU;rw[Nat.mod_eq_of_lt hi]
  rw[e2]at k;exact k.symm
theorem Apart.fC0{a b:Rg}(h:Apart a b){u v:Vc}(hu:u∈a)(hv:v∈a):par u (bF b)=par v (bF b):=by
 obtain⟨i,hi,rfl⟩:=List.mem_iff_getElem.1 hu;obtain⟨j,hj,rfl⟩:=List.mem_iff_getElem.1 hv;have h1:=h.const i hi;have h2:=h.const j hj
 rw[List.getD_eq_getElem?_getD,List.getElem?_eq_getElem hi]at h1;rw[List.getD_eq_getElem?_getD,List.getElem?_eq_getElem hj]at h2;exact h1.trans h2.symm
theorem eB8:∀ {l:List Vc},l≠ []->∃m∈l,∀v∈l,v.2<=m.2
 | [],h=>absurd rfl h
 | [x],_=>⟨x,Ae,fun v hv=>by rw[List.mem_singleton.1 hv];omega⟩
 |x::y::l,_=>by
  obtain⟨m,h1,h2⟩:=eB8 (l:=y::l) Ae;by_cases h:m.2<=x.2
  ·refine⟨x,Ae,fun v hv=>?_⟩
   rcases List.mem_cons.1 hv with rfl|hv
   ·omega
   ·have:=h2 v hv;omega
  ·refine⟨m,ET,fun v hv=>?_⟩
   rcases List.mem_cons.1 hv with rfl|hv
   ·omega
   ·exact h2 v hv
theorem Apart.outer{h o:Rg}(ha:Apart h o)(hin:pR h o 2):∀v∈o,par v (bF h)=false:=by
 have hne:o≠ [] :=fun q=>by have:=ha.ob.1;rw[q]at this;simp at this
 obtain⟨m,hm,hmax⟩:=eB8 hne
 have hlow:∀u∈h,u.2<=m.2:=by
  intro u hu;by_cases hq:u.2<=m.2
  ·exact hq
  exfalso;have h1:=((zD ha.ob (vN ha.oa.2.2.1 hu)).1 (hin u hu)).2
  rw[dH1 (fun e he=>by
   obtain⟨q1,q2⟩:=vH ha.ob he;have:=hmax _ q1;have:=hmax _ q2;omega)]at h1
  cases h1
 have h0:par m (bF h)=false:=dH1 (fun e he=>by
  obtain⟨q1,q2⟩:=vH ha.oa he;exact⟨hlow _ q1,hlow _ q2⟩)
 intro v hv;rw[<-h0];exact ha.symm.fC0 hv hm
theorem Apart.inner{h o:Rg}(ha:Apart h o)(hin:pR h o 2){v:Vc}(hv:Sm4 v)(hw:fJ h v≠0):fJ o v=2:=by
 rw[zD ha.ob hv];by_cases hon:onR h v
 ·refine⟨ha.off hon,?_⟩
  obtain⟨f,hf,q⟩:=hon;rw[ha.along hf q];exact MO
 ·have hpar:par v (bF h)=true:=by
   cases hb:par v (bF h)
   ·exact absurd ((aE8 ha.oa hv).2 ⟨hon,hb⟩) hw
   ·rfl
  have hout:=ha.outer hin;constructor
  ·rintro⟨g,hg,q⟩
   have:=ha.symm.along hg q;rw[hpar,hout _ (vH ha.ob hg).2]at this;cases this
  ·have eo:=vV ha.ob.1
   have eh:=vV ha.oa.1;rw[eo];rw[eh]at hpar;refine cT7 (vh:=fun i=>h.getD i z0) (nh:=h.length) ?_ ?_ ?_ ?_ ?_ ?_ ?_ hpar
   ·intro g hg;rw[<-eo]at hg;exact jO ha.ob.2.2.1 hg
   ·intro f hf;rw[<-eh]at hf;exact jO ha.oa.2.2.1 hf
   ·intro f hf g hg
    rw[<-eh]at hf;rw[<-eo]at hg;exact⟨ha.ap f hf g hg,ha.symm.ap g hg f hf⟩
   ·intro f hf;rw[<-eh]at hf;exact aG8 ha.oa hf
   ·intro g hg;rw[<-eo]at hg;exact aG8 ha.ob hg
   ·intro f hf
    rw[<-eh]at hf;rw[<-eo];exact MO
   ·intro g hg
    rw[<-eo]at hg;rw[<-eh];exact hout _ (vH ha.ob hg).2
theorem Apart.beside{h k:Rg}(ha:Apart h k)(hout:pR h k 0){v:Vc}(hon:onR h v)(hv:Sm4 v):fJ k v=0:=by
 rw[aE8 ha.ob hv];refine⟨ha.off hon,?_⟩;obtain⟨f,hf,q⟩:=hon;rw[ha.along hf q];have h2:=(vH ha.oa hf).2;exact((aE8 ha.ob (vN ha.oa.2.2.1 h2)).1 (hout _ h2)).2
def lG(v:Vc)(o:Int):List Rg->Int
 | [] =>o
 |h::l=>if fJ h v=2 then 0 else if fJ h v=1 then 1 else lG v o l
theorem cJ3{r:Rg}{v:Vc}:fJ r v=0\/fJ r v=1\/fJ r v=2:=by
 unfold fJ;split
 ·unfold iF
  split
  ·exact fL3 _ _ _
  ·simp
 ·simp
end Go.Proofs.Led
