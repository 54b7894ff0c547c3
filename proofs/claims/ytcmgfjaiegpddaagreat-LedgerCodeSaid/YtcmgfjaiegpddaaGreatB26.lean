/- Lemmas. -/
import Derived.Test.YtcmgfjaiegpddaaGreatB25
set_option linter.all false
set_option maxRecDepth 100000
set_option maxHeartbeats 8000000
noncomputable section
namespace Go.Proofs.Led
open Go Go.Proofs Go.Ab
theorem eW1{c d v:Vc}(a:c≠d)(b:Bb (c,d) v)(e:X (dif d c) (dif v c)=0):∃N k,Onp N k c d v:=by
 unfold Bb at b;unfold X dif at e;simp only at b e;by_cases f:c.1=d.1;have j:c.2≠d.2:=λh=>a (Prod.ext f h);have i:v.1=c.1:=Aa;by_cases g:c.2<d.2;exact⟨d.2-c.2,v.2-c.2,Aa,Aa,Aa,Ef,Int.mul_comm _ _⟩;exact⟨c.2-d.2,c.2-v.2,Aa,Aa,Aa,Ef,Cf⟩;by_cases g:c.1<d.1;exact⟨d.1-c.1,v.1-c.1,Aa,Aa,Aa,Int.mul_comm _ _,Cf⟩;exact⟨c.1-d.1,c.1-v.1,Aa,Aa,Aa,Cf,Cf⟩
def cX7{s:Sg}(b:bI s)(a:s.1≠s.2){v:Vc}(h:eX s v):∃N k,Onp N k s.1 s.2 v:=by
 grind [gZ,eW1]
def eP6{s t:Sg}(hs:bI s)(ht:bI t)(c:s.1≠s.2)(j:t.1≠t.2)(hd:xD s t=0)(b:xB s t=0){v:Vc}(hv:Com s t v):∃p,uH s t p/\Com s t p:=by
 obtain⟨g,i,k,l⟩:=vK s t;have hw:=bZ7 c;have la:onL (dif s.2 s.1) s.1 s.1:=by unfold onL X dif;simp
 have lb:onL (dif s.2 s.1) s.1 s.2:=Fa;have lc:onL (dif s.2 s.1) s.1 t.1:=by unfold onL;rw[g,b];rfl
 have ld:onL (dif s.2 s.1) s.1 t.2:=by unfold onL;rw[i,b,hd];rfl
 have f:onL (dif s.2 s.1) s.1 v:=((gZ hs).1 hv.1).2;have lt':∀p,onL (dif s.2 s.1) s.1 p->X (dif t.2 t.1) (dif p t.1)=0:=λp hp=>KL
 have a:∀p,onL (dif s.2 s.1) s.1 p->(Com s t p↔(min (co (dif s.2 s.1) s.1) (co (dif s.2 s.1) s.2)<=co (dif s.2 s.1) p/\co (dif s.2 s.1) p<=max (co (dif s.2 s.1) s.1) (co (dif s.2 s.1) s.2))/\
  (min (co (dif s.2 s.1) t.1) (co (dif s.2 s.1) t.2)<=co (dif s.2 s.1) p/\co (dif s.2 s.1) p<=max (co (dif s.2 s.1) t.1) (co (dif s.2 s.1) t.2))):=λp hp=>by
  exact OO
 have d:=(a v f).1 hv;generalize co (dif s.2 s.1) v=y at*;rcases(show(co (dif s.2 s.1) s.1=max (min (co (dif s.2 s.1) s.1) (co (dif s.2 s.1) s.2)) (min (co (dif s.2 s.1) t.1) (co (dif s.2 s.1) t.2)))\/(co (dif s.2 s.1) s.2=max (min (co (dif s.2 s.1) s.1) (co (dif s.2 s.1) s.2)) (min (co (dif s.2 s.1) t.1) (co (dif s.2 s.1) t.2)))\/(co (dif s.2 s.1) t.1=max (min (co (dif s.2 s.1) s.1) (co (dif s.2 s.1) s.2)) (min (co (dif s.2 s.1) t.1) (co (dif s.2 s.1) t.2)))\/(co (dif s.2 s.1) t.2=max (min (co (dif s.2 s.1) s.1) (co (dif s.2 s.1) s.2)) (min (co (dif s.2 s.1) t.1) (co (dif s.2 s.1) t.2))) from Aa)with h|h|h|h;exact⟨s.1, .inl rfl,(a _ la).2 Aa⟩;exact⟨s.2, .inr (.inl rfl),(a _ lb).2 Aa⟩;exact⟨t.1, .inr (.inr (.inl rfl)),(a _ lc).2 Aa⟩;exact⟨t.2, .inr (.inr (.inr rfl)),(a _ ld).2 Aa⟩
def eK6{N k:Int}{c d v:Vc}(h:Onp N k c d v)(u w:Vc):(0<X u (dif c w)->0<X u (dif d w)->0<X u (dif v w))/\(X u (dif c w)<0->X u (dif d w)<0->X u (dif v w)<0):=by
 obtain⟨a,b,f,g,i⟩:=h;have e:N*X u (dif v w)=(N-k)*X u (dif c w)+k*X u (dif d w):=Cc;have j:=sgn N (X u (dif v w));have l:=sgn (N-k) (X u (dif c w));have m:=sgn k (X u (dif d w));grind
theorem eZ7{s t:Sg}(c:bI s)(d:bI t)(e:s.1≠s.2)(f:t.1≠t.2)(n:dG s t=0){v:Vc}(a:eX s v)(b:eX t v):False:=by
 obtain⟨N,k,l⟩:=cX7 c e a;obtain⟨M,j,m⟩:=cX7 d f b;have x:=((gZ c).1 a).2;have y:=((gZ d).1 b).2;have g:=eK6 m (dif s.2 s.1) s.1;have i:=eK6 l (dif t.2 t.1) t.1;rcases rC c d e n with q|q|q|q|q;have:=g.1 q.1 q.2;omega;have:=g.2 q.1 q.2;omega;have:=i.1 q.1 q.2;omega;have:=i.2 q.1 q.2;omega;obtain⟨o,r,u,w⟩:=vK s t;have:=(tells c d).touch.1 (eP6 c d e f Aa Aa ⟨a,b⟩);omega
def dM4{s t:Sg}:dG s t=0\/dG s t=1\/dG s t=2\/dG s t=3:=by
 unfold dG kQ;split;exact .inl rfl;split;unfold lines;simp only;split;exact .inl rfl;grind [aH6];split;exact .inr (.inl rfl);split;exact .inr (.inl rfl);split;exact .inl rfl;unfold yD;split;exact .inr (.inl rfl);split;exact .inr (.inr (.inr rfl));exact .inl rfl
def eD0{s t:Sg}{p:Vc}:uH s t p/\Com s t p↔uH t s p/\Com t s p:=by
 unfold uH Com;constructor;grind;grind
def bS4{s t:Sg}(c:bI s)(d:bI t):dG s t=0↔(¬∃p,uH s t p/\Com s t p)/\¬zT9 s t:=by
 have h:=tells c d;have hv:=dM4 (s:=s) (t:=t);constructor;intro f;have e:¬∃p,uH s t p/\Com s t p:=λq=>by have:=h.touch.1 q;omega
 exact⟨e,λq=>by have:=h.cross.2 ⟨e,q⟩;omega⟩;rintro⟨a,b⟩;rcases hv with q|q|q|q;exact q;exact absurd (h.touch.2 (.inl q)) a;exact absurd (h.cross.1 q).2 b;exact absurd (h.touch.2 (.inr q)) a
def dS2{s t:Sg}(a:bI s)(b:bI t)(h:dG s t=0):dG t s=0:=by
 rw[bS4 a b]at h;rw[bS4 b a];refine⟨λ⟨p,c⟩=>h.1 ⟨p,eD0.1 c⟩,λq=>h.2 ?_⟩;exact⟨q.2,q.1⟩
def vV{r:Rg}(h:3<=r.length):bF r=dD (λi=>r.getD i z0) r.length:=by
 unfold bF dD;rw[RZ Aa];refine U8 (λi hi=>?_);have:=TN.1 hi;show(r.getD i z0,iU r i)=_;rw[Nat.mod_eq_of_lt this];rfl
def bC9{r:Rg}(h:3<=r.length){e:Sg}:e∈bF r↔∃i,i<r.length/\e=aJ4 r i:=by
 unfold bF;rw[RZ Aa,Td];constructor;rintro⟨i,hi,rfl⟩;exact⟨i,TN.1 hi,rfl⟩;rintro⟨i,hi,rfl⟩;exact⟨i,TN.2 hi,rfl⟩
def vN{r:Rg}(a:bR7 r){v:Vc}(hv:v∈r):Sm4 v:=by
 have:=a v hv;rw[within_iff Aa]at this;unfold Sm4;omega
theorem aG8{r:Rg}(h:dM r){e:Sg}(f:e∈bF r):e.1≠e.2:=by
 obtain⟨i,hi,rfl⟩:=(bC9 h.1).1 f;intro g;have j:=h.2.2.2.2.1 i hi;apply j;have b:=vN h.2.2.1 (aE1 hi);have c:=vN h.2.2.1 (v:=mY r i) (aE1 (TM _ Aa));have d:=vN h.2.2.1 (bA6 hi);rw[zH c b d];have a:r.getD i z0=iU r i:=g;rw[a];have:X (dif (iU r i) (mY r i)) (dif (iU r i) (mY r i))=0:=by unfold X;rw[Int.mul_comm];omega
 rw[this];rfl
def bH8{p:Vc}(d:Sm4 p):∀ {l:List Sg} {b:Bool},(∀e∈l,bI e)->(∀e∈l,¬eX e p)->lU (p.1,p.2,1) l b=if(b^^par p l)=true then 2 else 0
 | [],b,_,_=>by
   rw[qB];show _=if(b^^false)=true then 2 else 0
   rw[Bool.xor_false]
 |e::l,b,a,c=>by
  have g:=a e Af;have i:=c e Af;have j:¬onE (p.1,p.2,1) e:=λq=>i ((cC3 d g).1 q);have f:par p (e::l)=(decB (ray e p)^^par p l):=rfl;have k:=λb=>bH8 d (l:=l) (b:=b) (λx hx=>a x Ci) (λx hx=>c x Ci);grind [rE,dH,dD7,jD,dW,ray]
def onR(r:Rg)(v:Vc):Prop:=∃e∈bF r,eX e v
theorem nZ{r:Rg}(h:dM r){v:Vc}(hv:Sm4 v):fJ r v=1↔onR r v:=by
 rw[aC1 (pY.2 hv),aD9 h (bC7 hv),yZ];constructor;rintro⟨e,a,q⟩;exact⟨e,a,(cC3 hv (jO h.2.2.1 a)).1 q⟩;rintro⟨e,a,q⟩;exact⟨e,a,(cC3 hv (jO h.2.2.1 a)).2 q⟩
theorem zS9{r:Rg}(h:dM r){v:Vc}(hv:Sm4 v)(b:¬onR r v):fJ r v=if par v (bF r)=true then 2 else 0:=by
 rw[aC1 (pY.2 hv),aD9 h (bC7 hv),bH8 hv (λe a=>jO h.2.2.1 a) (λe a q=>b ⟨e,a,q⟩),Bool.false_xor]
def zD{r:Rg}(h:dM r){v:Vc}(hv:Sm4 v):fJ r v=2↔¬onR r v/\par v (bF r)=true:=by
 constructor;grind [nZ,zS9];simp_all [zS9,Sj]
def aE8{r:Rg}(h:dM r){v:Vc}(hv:Sm4 v):fJ r v=0↔¬onR r v/\par v (bF r)=false:=by
 grind [nZ,zS9]
structure Apart(a b:Rg):Prop where
 oa:dM a
 ob:dM b
 ap:uV a b
def Apart.symm{a b:Rg}(h:Apart a b):Apart b a:=⟨h.ob,h.oa,λx c y d=>dS2 (jO h.oa.2.2.1 d) (jO h.ob.2.2.1 c) (h.ap y d x c)⟩
def Apart.sep{a b:Rg}(h:Apart a b){f g:Sg}(c:f∈bF a)(d:g∈bF b):Sep f.1 f.2 g:=
 rC (jO h.oa.2.2.1 c) (jO h.ob.2.2.1 d) (aG8 h.oa c) (h.ap f c g d)
def Apart.off{a b:Rg}(h:Apart a b){v:Vc}(hv:onR a v):¬onR b v:=by
 rintro⟨g,d,q⟩;obtain⟨f,c,p⟩:=hv;exact eZ7 (jO h.oa.2.2.1 c) (jO h.ob.2.2.1 d) (aG8 h.oa c) (aG8 h.ob d) (h.ap f c g d) p q
def Apart.along{a b:Rg}(h:Apart a b){f:Sg}(c:f∈bF a){v:Vc}(hv:eX f v):par v (bF b)=par f.2 (bF b):=by
 obtain⟨N,k,e⟩:=cX7 (jO h.oa.2.2.1 c) (aG8 h.oa c) hv;rw[vV h.ob.1];exact eY9 _ _ e (λg d=>h.sep c (by rw[vV h.ob.1];exact d))
def vert_onR{r:Rg}(h:dM r){v:Vc}(hv:v∈r):onR r v:=by
 obtain⟨e,a,rfl⟩:=bC8 h.1 hv;exact⟨e,a,rH (jO h.2.2.1 a)⟩
def vH{r:Rg}(h:dM r){e:Sg}(a:e∈bF r):e.1∈r/\e.2∈r:=by
 obtain⟨i,hi,rfl⟩:=(bC9 h.1).1 a;exact⟨aE1 hi,bA6 hi⟩
def Apart.const{a b:Rg}(h:Apart a b):∀i,i<a.length->par (a.getD i z0) (bF b)=par (a.getD 0 z0) (bF b):=by
 intro i;induction i with
 |zero=>intro _;rfl
 |succ i e=>
  intro hi;rw[<-e Aa];have c:aJ4 a i∈bF a:=(bC9 h.oa.1).2 ⟨i,Aa,rfl⟩;have k:=h.along c (rH (jO h.oa.2.2.1 c))
  have d:(aJ4 a i).2=a.getD (i+1) z0:=by
   show iU a i=_;unfold iU;rw[Nat.mod_eq_of_lt hi]
  rw[d]at k;exact k.symm
def Apart.fC0{a b:Rg}(h:Apart a b){u v:Vc}(d:u∈a)(hv:v∈a):par u (bF b)=par v (bF b):=by
 obtain⟨i,hi,rfl⟩:=List.mem_iff_getElem.1 d;obtain⟨j,c,rfl⟩:=List.mem_iff_getElem.1 hv;have e:=h.const i hi;have f:=h.const j c;simp_all
def eB8:∀ {l:List Vc},l≠ []->∃m∈l,∀v∈l,v.2<=m.2
 | [],h=>absurd rfl h
 | [x],_=>⟨x,Af,λv hv=>by rw[S9.1 hv];omega⟩
 |x::y::l,_=>by
  obtain⟨m,a,b⟩:=eB8 (l:=y::l) Af;by_cases h:m.2<=x.2;grind;grind
def Apart.outer{h o:Rg}(c:Apart h o)(f:pR h o 2):∀v∈o,par v (bF h)=false:=by
 have g:o≠ [] :=λq=>by have:=c.ob.1;rw[q]at this;simp at this
 obtain⟨m,p,b⟩:=eB8 g
 have a:∀u∈h,u.2<=m.2:=by
  intro u l;by_cases r:u.2<=m.2;exact r;exfalso;have k:=((zD c.ob (vN c.oa.2.2.1 l)).1 (f u l)).2
  rw[dH1 (λe d=>by
   obtain⟨i,j⟩:=vH c.ob d;have:=b _ i;have:=b _ j;omega)]at k
  cases k
 have n:par m (bF h)=false:=dH1 (λe d=>by
  obtain⟨i,j⟩:=vH c.oa d;exact⟨a _ i,a _ j⟩)
 intro v hv;rw[<-n];exact c.symm.fC0 hv p
def Apart.inner{h o:Rg}(ha:Apart h o)(hin:pR h o 2){v:Vc}(hv:Sm4 v)(l:fJ h v≠0):fJ o v=2:=by
 rw[zD ha.ob hv];by_cases d:onR h v;refine⟨ha.off d,?_⟩;obtain⟨f,hf,q⟩:=d;rw[ha.along hf q];exact QD
 have b:par v (bF h)=true:=by
  cases k:par v (bF h)
  exact absurd ((aE8 ha.oa hv).2 ⟨d,k⟩) l;rfl
 have c:=ha.outer hin;constructor;rintro⟨g,a,q⟩;have:=ha.symm.along a q;rw[b,c _ (vH ha.ob a).2]at this;cases this;have j:=vV ha.ob.1;have e:=vV ha.oa.1;rw[j];rw[e]at b;refine cT7 (vh:=λi=>h.getD i z0) (nh:=h.length) ?_ ?_ ?_ ?_ ?_ ?_ ?_ b;intro g a;rw[<-j]at a;exact jO ha.ob.2.2.1 a;intro f hf;rw[<-e]at hf;exact jO ha.oa.2.2.1 hf;intro f hf g a;rw[<-e]at hf;rw[<-j]at a;exact⟨ha.ap f hf g a,ha.symm.ap g a f hf⟩;intro f hf;rw[<-e]at hf;exact aG8 ha.oa hf;intro g a;rw[<-j]at a;exact aG8 ha.ob a;intro f hf;rw[<-e]at hf;rw[<-j];exact QD;intro g a;rw[<-j]at a;rw[<-e];exact c _ (vH ha.ob a).2
def Apart.beside{h k:Rg}(a:Apart h k)(c:pR h k 0){v:Vc}(b:onR h v)(hv:Sm4 v):fJ k v=0:=by
 rw[aE8 a.ob hv];refine⟨a.off b,?_⟩;obtain⟨f,e,q⟩:=b;rw[a.along e q];have d:=(vH a.oa e).2;exact((aE8 a.ob (vN a.oa.2.2.1 d)).1 (c _ d)).2
def bK3{o:Rg}:∀ {l pre:List Rg},qR o pre l->(∀r∈l,dM r)->dM o->∀h∈l,Apart h o/\pR h o 2
 | [],_,_,_,_,h,a=>by cases a
 |x::l,pre,b,d,c,h,a=>by
  rcases SI.1 a with rfl|a;exact⟨⟨d h Af,c,b.1.2.1⟩,b.1.1⟩;exact bK3 b.2 (λr q=>d r (by simp[q])) c h a
def bK4{s:Sh}(a:bG s){h:Rg}(b:h∈s.holes):Apart h s.outer/\pR h s.outer 2:=
 bK3 a.2.2.2 (λr hr=>a.2.1 r Dz) (a.2.1 s.outer AB) h b
def bF4{o:Rg}:∀ {l pre:List Rg},qR o pre l->∀ {i j:Nat} {a b:Rg},i<j->(pre++l)[i]? =some a->l[j-pre.length]? =some b->pre.length<=j->uV b a/\pR b a 0/\pR a b 0
 | [],pre,_,i,j,a,b,c,e,d,m=>by simp at d
 |x::l,pre,f,i,j,a,b,c,e,d,m=>by
  by_cases g:j=pre.length;subst g;rw[Nat.sub_self]at d;cases d
  have k:a∈pre:=by
   grind
  exact f.1.2.2 a k;refine bF4 (l:=l) (pre:=pre++[x]) f.2 c (by rw[Sv];exact e) ?_ Bg;rw[Q5,SA];grind
def cS9{s:Sh}(d:bG s){i j:Nat}{a b:Rg}(c:i<j)(e:s.holes[i]? =some a)(f:s.holes[j]? =some b):Apart b a/\pR b a 0/\pR a b 0:=by
 have h:=bF4 (pre:=[]) d.2.2.2 c e f (SH _);exact⟨⟨d.2.1 b (by unfold rings;simp[Sl f]),d.2.1 a (by unfold rings;simp[Sl e]),h.1⟩,h.2⟩
def lG(v:Vc)(o:Int):List Rg->Int
 | [] =>o
 |h::l=>if fJ h v=2 then 0 else if fJ h v=1 then 1 else lG v o l
def cJ3{r:Rg}{v:Vc}:fJ r v=0\/fJ r v=1\/fJ r v=2:=by
 grind [fL3,fJ,iF]
def cI4{r:Rg}{v:Vc}(hv:Sm4 v):iF r (v.1,v.2,1)=fJ r v:=(aC1 (pY.2 hv)).symm
def bT3{v:Vc}(hv:Sm4 v)(o:Int):∀l:List Rg,qG o (v.1,v.2,1) l=lG v o l
 | [] =>rfl
 |h::l=>by
  rw[qG,lG,cI4 hv,bT3 hv o l]
theorem tH{v:Vc}{o:Int}:∀ {l:List Rg},(∀h∈l,fJ h v=0)->lG v o l=o
 | [],_=>rfl
 |h::l,a=>by
  simp_all [RZ,tH,lG]
def eG3{s:Sh}(b:bG s){v:Vc}(hv:Sm4 v):lJ s v=lG v (fJ s.outer v) s.holes:=by
 unfold lJ;rw[Sj (pY.2 hv)];unfold qW;rw[Sj b,cI4 hv,bT3 hv];by_cases d:∃h∈s.holes,fJ h v≠0;obtain⟨h,e,f⟩:=d;obtain⟨c,a⟩:=bK4 b e;rw[c.inner a hv f,Sj rfl];grind [tH]
def fD8{s:Sh}(c:bG s){v:Vc}(hv:Sm4 v):lJ s v=1↔∃r∈rings s,onR r v:=by
 have A:dM s.outer:=c.2.1 _ AB;rw[eG3 c hv];constructor;intro h;by_cases y:∃h∈s.holes,fJ h v=1;obtain⟨r,e,B⟩:=y;exact⟨r,by unfold rings;simp[e],(nZ (c.2.1 r (by unfold rings;simp[e])) hv).1 B⟩
 have key:∀l:List Rg,(∀r∈l,fJ r v≠1)->lG v (fJ s.outer v) l=1->fJ s.outer v=1:=by
  intro l;induction l with
  |nil=>intro _ h;exact h
  |cons x l t=>
   intro q h;rw[lG]at h;grind
 grind [nZ,rings];rintro⟨r,hr,b⟩;rcases SI.1 (show r∈s.outer::s.holes from hr)with rfl|hr
 have u:∀h∈s.holes,fJ h v=0:=λh e=>by
  obtain⟨f,g⟩:=bK4 c e;by_cases q:fJ h v=0;exact q;have:=f.inner g hv q;have:=(nZ A hv).2 b;omega
 grind [tH,nZ];obtain⟨j,m⟩:=List.mem_iff_getElem?.1 hr;have d:dM r:=c.2.1 r Dz;have C:=(nZ d hv).2 b
 have key:∀(l:List Rg) (n:Nat),(∀i a,l[i]? =some a->s.holes[n+i]? =some a)->n<=j->l[j-n]? =some r->lG v (fJ s.outer v) l=1:=by
  intro l;induction l with
  |nil=>intro n _ _ h;simp at h
  |cons x l t=>
   intro n o E F;rw[lG];by_cases z:j=n;simp_all;have k:=o 0 x rfl;obtain⟨f,w,D⟩:=cS9 c (i:=n) (j:=j) Aa k m;have u:=f.beside w b hv;rw[RZ Aa,RZ Aa];refine t (n+1) (λi a hi=>?_) Aa ?_;rw[Nat.add_assoc,Nat.add_comm 1];exact o (i+1) a (by rw[TB];exact hi);grind
 exact key s.holes 0 (λi a h=>by rw[Uh];exact h) (SH _) m
def Dt(u v:Vc):Int:=u.1*v.1+u.2*v.2
def SmV(u:Vc):Prop:=Sm u.1/\Sm u.2
theorem mD{u v:Vc}(a:SmV u)(hv:SmV v):bZ u v=X u v:=iK a.1 a.2 hv.1 hv.2
theorem aE6{u v:Vc}(a:SmV u)(hv:SmV v):vdot u v=Dt u v:=bY4 a.1 a.2 hv.1 hv.2
def aP5(u v:Vc):Prop:=bZ u v=0/\0<vdot u v
def dG5(u v:Vc):Prop:=bZ u v<0\/(bZ u v=0/\vdot u v<0)
open Classical in
def aP1(x:Sg)(d:Vc):Prop:=if aP5 x.1 d\/aP5 x.2 d then False else if¬(dG5 x.1 d↔dG5 x.1 x.2)then dG5 x.1 x.2 else 0<bZ d x.2
def dI3(x y:Sg):Prop:=aP5 x.1 y.1\/aP1 x y.1\/aP1 y x.1
def dN3{n c e b f i m:Int}(s:0<n)(q:n*i=e*b-c*f)(r:n*m=e*f+c*b)(t:¬(c=0/\e=0))(u:¬(b=0/\0<=f)):
 (((if 0<c then 0 else if c<0 then 2 else if e<0 then(1:Int)else 3)< (if 0<b then 0 else if b<0 then 2 else if f<0 then 1 else 3))\/
   ((if 0<c then 0 else if c<0 then 2 else if e<0 then(1:Int)else 3)=(if 0<b then 0 else if b<0 then 2 else if f<0 then 1 else 3)/\(if 0<c then 0 else if c<0 then 2 else if e<0 then(1:Int)else 3)≠3/\0<i))↔
 ¬((c=0/\0<e)\/(i=0/\0<m))/\((¬((c<0\/(c=0/\e<0))↔(b<0\/(b=0/\f<0)))/\(b<0\/(b=0/\f<0)))\/(((c<0\/(c=0/\e<0))↔(b<0\/(b=0/\f<0)))/\0<i)):=by
 have k:=fK2 (G:=i) s;have l:=fK2 (G:=m) s;rw[q]at k;rw[r]at l;clear q r;rcases Int.lt_trichotomy c 0 with d|d|d
 ·rw[RZ (show¬0<c from Aa),Sj (show c<0 from Aa)]
  rcases Int.lt_trichotomy b 0 with a|a|a
  ·omega
  ·have g:f<0:=by omega
   have o:=Int.mul_pos_of_neg_of_neg d g;grind
  ·rw[Sj a]
   clear k l;omega
 ·rw[RZ (show¬0<c from Aa),RZ (show¬c<0 from Aa)]
  by_cases j:e<0
  ·rw[Sj j]
   rcases Int.lt_trichotomy b 0 with a|a|a
   ·have o:=Int.mul_pos_of_neg_of_neg j a
    rw[RZ (show¬0<b from Aa),Sj (show b<0 from Aa)];grind
   ·omega
   ·rw[Sj a]
    clear k l;omega
  ·grind
 ·rw[Sj d]
  rcases Int.lt_trichotomy b 0 with a|a|a
  ·rw[RZ (show¬0<b from Aa),Sj (show b<0 from Aa)]
   have o:=Int.mul_neg_of_pos_of_neg d a;have v:=sgn e b;have w:=sgn c f;have x:=sgn e f;grind
  ·have g:f<0:=by omega
   have o:=Int.mul_neg_of_pos_of_neg d g;grind
  ·rw[Sj a]
   clear k l;omega
def lag(u v w:Vc):Dt u u*X v w=Dt u v*X u w-X u v*Dt u w/\Dt u u*Dt v w=Dt u v*Dt u w+X u v*X u w:=by
 unfold Dt X;constructor<;>grind
def cY3{u:Vc}(h:u≠(0,0)):0<Dt u u:=by
 unfold Dt;have a:=sgn u.1 u.1;have b:=sgn u.2 u.2;grind
theorem cP3{u v:Vc}(c:u≠(0,0))(hv:v≠(0,0)):¬(X u v=0/\Dt u v=0):=by
 rintro⟨a,b⟩;have k:=(lag u v v).2;rw[a,b,Int.zero_mul]at k;have d:=cY3 c;have e:=cY3 hv;have:=Int.mul_pos d e;omega
def eQ2{u v:Vc}(a:SmV u)(hv:SmV v)(b:u≠(0,0))(c:v≠(0,0)):jS u v=3↔aP5 u v:=by
 grind [cP3,mD,aE6,jS,aP5]
structure SecG(x:Sg):Prop where
 s1:SmV x.1
 s2:SmV x.2
 n1:x.1≠(0,0)
 n2:x.2≠(0,0)
 ne:¬(X x.1 x.2=0/\0<=Dt x.1 x.2)
theorem eB7(u v:Vc):X u v= -X v u:=by unfold X;grind
theorem dH3(u v:Vc):Dt u v=Dt v u:=by unfold Dt;grind
def bQ9{x:Sg}(a:SecG x){d:Vc}(b:SmV d)(nd:d≠(0,0)):oG x d↔aP1 x d:=by
 obtain⟨c,e⟩:=lag x.1 d x.2;have key:=dN3 (cY3 a.n1) c e (cP3 a.n1 nd) a.ne;unfold oG aP1 jS aP5 dG5;rw[mD a.s1 b,aE6 a.s1 b,mD a.s1 a.s2,aE6 a.s1 a.s2,mD b a.s2,mD a.s2 b,aE6 a.s2 b,eB7 x.2 d,dH3 x.2 d];grind
def bJ4{u v:Vc}(a:SmV u)(hv:SmV v)(h:aP5 u v):aP5 v u:=by
 grind [mD,aE6,eB7,dH3,aP5]
theorem fD6{x y:Sg}(a:SecG x)(b:SecG y):jH y x↔dI3 x y:=by
 unfold jH dI3;rw[bQ9 b a.s1 a.n1,bQ9 a b.s1 b.n1,eQ2 b.s1 a.s1 b.n1 a.n1];constructor;rintro(h|h|h);exact .inl (bJ4 b.s1 a.s1 h);exact .inr (.inr h);exact .inr (.inl h);rintro(h|h|h);exact .inl (bJ4 a.s1 b.s1 h);exact .inr (.inr h);exact .inr (.inl h)
def fU1{a b x y:Int}(c:0<a)(d:0<b)(h:a*x=b*y):(0<x↔0<y)/\(x<0↔y<0)/\(x=0↔y=0):=by
 obtain⟨e,f⟩:=fK2 (G:=x) c;obtain⟨g,i⟩:=fK2 (G:=y) d;omega
def Dir(u v:Vc):Prop:=∃N m,0<N/\0<m/\N*u.1=m*v.1/\N*u.2=m*v.2
def dir_refl(u:Vc):Dir u u:=⟨1,1,Ai,Ai,rfl,rfl⟩
def aQ9{u a v v':Vc}(h:Dir u a)(hv:Dir v v'):((0<X u v↔0<X a v')/\(X u v<0↔X a v'<0)/\(X u v=0↔X a v'=0))/\((0<Dt u v↔0<Dt a v')/\(Dt u v<0↔Dt a v'<0)/\(Dt u v=0↔Dt a v'=0)):=by
 obtain⟨N,m,c,e,i,j⟩:=h;obtain⟨M,k,b,d,l,n⟩:=hv
 have f:(N*M)*X u v=(m*k)*X a v':=by
  unfold X;grind
 have g:(N*M)*Dt u v=(m*k)*Dt a v':=by
  grind [Dt]
 exact⟨fU1 (Int.mul_pos c b) (Int.mul_pos e d) f,fU1 (Int.mul_pos c b) (Int.mul_pos e d) g⟩
def cF1{u c:Vc}(d:Dir u c)(h:c≠(0,0)):u≠(0,0):=by
 obtain⟨N,m,e,f,a,b⟩:=d;intro q;rw[q]at a b;simp only[Int.mul_zero]at a b;grind [Int.mul_eq_zero]
def DirS(x y:Sg):Prop:=Dir x.1 y.1/\Dir x.2 y.2
def bI4{u a v v':Vc}(e:SmV u)(c:SmV a)(f:SmV v)(d:SmV v')(b:Dir u a)(hv:Dir v v'):jS u v=jS a v':=by
 have k:=aQ9 b hv;simp_all [mD,aE6,Sj,RZ,jS]
def bP8{x x':Sg}{d e:Vc}(g:SmV x.1)(a:SmV x'.1)(i:SmV x.2)(b:SmV x'.2)(j:SmV d)(c:SmV e)(h:DirS x x')(f:Dir d e):oG x d↔oG x' e:=by
 unfold oG;rw[bI4 g a j c h.1 f,bI4 g a i b h.1 h.2,mD j i,mD c b];have k:=(aQ9 f h.2).1.1;rw[k]
def fD7{x x' y e:Sg}(c:SmV x.1/\SmV x.2)(a:SmV x'.1/\SmV x'.2)(d:SmV y.1/\SmV y.2)(b:SmV e.1/\SmV e.2)(f:DirS x x')(g:DirS y e):jH y x↔jH e x':=by
 unfold jH;rw[bI4 d.1 b.1 c.1 a.1 g.1 f.1,bP8 d.1 b.1 d.2 b.2 c.1 a.1 g f.1,bP8 c.1 a.1 c.2 a.2 d.1 b.1 f g.1]
def secG_dir{x x':Sg}(h:DirS x x')(b:SmV x.1/\SmV x.2)(a:SecG x'):SecG x:=by
 have k:=aQ9 h.1 h.2;refine⟨b.1,b.2,cF1 h.1 a.n1,cF1 h.2 a.n2,λq=>a.ne ?_⟩;omega
def fT6(r:Rg)(i:Nat):Int:=kR (r.getD i z0) (r.getD ((i+1)% r.length) z0) (r.getD ((i+2)% r.length) z0)
theorem fN2{n i:Nat}(h:i<n):((i+1)% n+n-1)% n=i:=by
 by_cases a:i+1=n;rw[a,Nat.mod_self,Uh,Nat.mod_eq_of_lt Aa];omega;rw[Nat.mod_eq_of_lt (show i+1<n from Aa),show i+1+n-1=i+n from Aa,Nat.add_mod_right,Nat.mod_eq_of_lt h]
theorem fY2{r:Rg}{i:Nat}(h:i<r.length):fT6 r i=kR (mY r ((i+1)% r.length)) (r.getD ((i+1)% r.length) z0) (iU r ((i+1)% r.length)):=by
 unfold fT6 mY iU;rw[fN2 h,Nat.mod_add_mod]
theorem fU3{r:Rg}:(∀i,i<r.length->kR (mY r i) (r.getD i z0) (iU r i)≠0)↔∀i,i<r.length->fT6 r i≠0:=by
 constructor;grind [fY2,TM];intro h i hi;have a:(i+r.length-1)% r.length<r.length:=TM _ Aa;have k:=h _ a;rw[fY2 a]at k
 have e:((i+r.length-1)% r.length+1)% r.length=i:=by
  by_cases b:i=0;subst b;rw[Nat.mod_eq_of_lt (show 0+r.length-1<r.length from Aa),show 0+r.length-1+1=r.length from Aa,Nat.mod_self];rw[show i+r.length-1=(i-1)+r.length from Aa,Nat.add_mod_right,Nat.mod_eq_of_lt (show i-1<r.length from Aa),show i-1+1=i from Aa,Nat.mod_eq_of_lt hi]
 rw[e]at k;exact k
def fZ9{s t:Sg}(hs:bI s)(ht:bI t)(h:t.1=s.2)(hd:xD s t≠0):dG s t=1:=by
 have hA:xA s t=xD s t:=by unfold xA xD;rw[h]
 have hB:xB s t=0:=by unfold xB;rw[h];unfold X;rw[Int.mul_comm];omega
 exact Qp
def fX6{s t:Sg}(hs:bI s)(ht:bI t)(h:t.2=s.1)(hd:xD s t≠0):dG s t=1:=by
 have hA:xA s t=0:=by
  unfold xA;rw[h];unfold X dif;simp only;grind
 have hB:xB s t=xD s t:=by
  unfold xB xD;rw[h];unfold X dif;simp only;grind
 exact Qp
def adj(n i k:Nat):Prop:=k=i+1\/(i=0/\k=n-1)
def fM5(r:Rg)(i k:Nat):Prop:=(adj r.length i k->dG ((bF r).getD i (z0,z0)) ((bF r).getD k (z0,z0))=1)/\(¬adj r.length i k->dG ((bF r).getD i (z0,z0)) ((bF r).getD k (z0,z0))=0)
def fH0{r:Rg}(a:3<=r.length){i:Nat}(hi:i<r.length):(bF r).getD i (z0,z0)=aJ4 r i:=by
 unfold bF;grind
def fH4{a b c:Vc}(d:Sm4 a)(f:Sm4 b)(g:Sm4 c)(h:kR a b c≠0):X (dif b a) (dif c b)≠0:=by
 rw[zH d f g,tC]at h;have e:X (dif b a) (dif c b)=X (dif b a) (dif c a):=Cc;rw[e];exact h
def gG1{r:Rg}(e:3<=r.length)(d:bR7 r)(g:∀i,i<r.length->fT6 r i≠0){i k:Nat}(o:i<k)(c:k<r.length)(n:adj r.length i k):
 dG ((bF r).getD i (z0,z0)) ((bF r).getD k (z0,z0))=1:=by
 have a:∀j,j<r.length->bI (aJ4 r j):=λj s=>jO d ((bC9 e).2 ⟨j,s,rfl⟩);have b:∀j,Sm4 (r.getD (j% r.length) z0):=λj=>vN d (aE1 (TM _ Aa));rw[fH0 e Aa,fH0 e c];rcases n with rfl|⟨rfl,rfl⟩
 ·refine fZ9 (a i Aa) (a _ c) ?_ ?_
  ·show r.getD (i+1) z0=iU r i
   unfold iU;rw[Nat.mod_eq_of_lt c]
  ·have:=fH4 (vN d (aE1 Aa)) (b (i+1)) (b (i+2)) (g i Aa)
   show X (dif (iU r i) (r.getD i z0)) (dif (iU r (i+1)) (r.getD (i+1) z0))≠0;grind [Nat.mod_eq_of_lt,iU]
 ·refine fX6 (a 0 Aa) (a _ c) ?_ ?_
  ·show iU r (r.length-1)=r.getD 0 z0
   unfold iU;rw[show r.length-1+1=r.length from Aa,Nat.mod_self]
  ·have:=fH4 (vN d (aE1 c)) (b (r.length-1+1)) (b (r.length-1+2)) (g (r.length-1) c)
   have f:(r.length-1+1)% r.length=0:=EJ;have l:(r.length-1+2)% r.length=1:=BV;rw[f,l]at this;show X (dif (iU r 0) (r.getD 0 z0)) (dif (iU r (r.length-1)) (r.getD (r.length-1) z0))≠0;unfold iU;rw[f,Uh,Nat.mod_eq_of_lt (show 1<r.length from Aa)];intro q;apply this;have m:X (dif (r.getD 0 z0) (r.getD (r.length-1) z0)) (dif (r.getD 1 z0) (r.getD 0 z0))= -X (dif (r.getD 1 z0) (r.getD 0 z0)) (dif (r.getD 0 z0) (r.getD (r.length-1) z0)):=by unfold X;grind
   rw[m,q];rfl
def fR4{r:Rg}:dM r↔(3<=r.length/\r.length<=40/\bR7 r/\(∀i,i<r.length->fT6 r i≠0)/\(∀i k,i<k->k<r.length->fM5 r i k)/\0<zY r):=by
 unfold dM;rw[fU3];constructor;rintro⟨d,h,e,j,f,l⟩;refine⟨d,h,e,f,λi k a g=>⟨λm=>gG1 d e f a g m,λc=>?_⟩,j⟩;refine l i k a g (λq=>c (.inl q)) ?_;by_cases q:i=0;exact .inr (λb=>c (.inr ⟨q,b⟩));exact .inl q;rintro⟨d,h,e,j,f,l⟩;refine⟨d,h,e,l,j,λi k a g o b=>?_⟩;refine(f i k a g).2 ?_;rintro(q|⟨q,n⟩);exact o q;rcases b with b|b;exact b q;exact b n
theorem fD9{a b c:Vc}(d:kF a b)(e:kF b c):kF a c:=by
 rw[aG2]at*;omega
theorem fJ8{a b:Vc}(c:kF a b)(d:kF b a):False:=by
 rw[aG2]at*;omega
theorem fK0{a b:Vc}(c:¬kF a b)(d:a≠b):kF b a:=by
 grind [aG2]
def ahead(x:Vc)(l:List Vc):Nat:=(l.takeWhile λy=>decB (kF y x)).length
def insV(x:Vc)(l:List Vc):List Vc:=open Classical in
 if l[ahead x l]? =some x then l else l.take (ahead x l)++x::l.drop (ahead x l)
def srtV(l:List Vc):List Vc:=l.foldl (λo x=>insV x o) []
def gD1(D:List Vc)(x:Vc):srtV (D++[x])=insV x (srtV D):=by unfold srtV;rw[U5];rfl
theorem fW5(x:Vc)(l:List Vc):ahead x l<=l.length:=by
 grind [List.takeWhile_sublist,ahead]
theorem fU7{a:Type}{p:a->Bool}:∀ {l:List a} {z:a},z∈l.takeWhile p->p z=true
 | [],z,h=>Ah
 |y::l,z,h=>by
  rw[Vm]at h;split at h;rcases SI.1 h with rfl|h;assumption;exact fU7 h;cases h
theorem fX7{x:Vc}{l:List Vc}{i:Nat}(hi:i<ahead x l)(h:i<l.length):kF l[i] x:=by
 unfold ahead at hi;have a:(l.takeWhile λy=>decB (kF y x))[i] =l[i] :=(List.takeWhile_prefix _).getElem hi;grind [Ui,fU7,dH]
def fQ4{x:Vc}:∀ {l:List Vc} {y:Vc},l[ahead x l]? =some y->¬kF y x
 | [],y,h=>Ah
 |z::l,y,h=>by
  unfold ahead at h;rw[Vm]at h;by_cases a:kF z x;rw[Sj (dH.2 a),SY,TB]at h;exact fQ4 h;simp_all [RZ,dH]
theorem gF6{x z:Vc}{l:List Vc}:z∈insV x l↔z=x\/z∈l:=by
 grind [Sl,TG,SS,Tc,insV]
theorem fY3{x:Vc}{l:List Vc}(h:l.Pairwise kF):(insV x l).Pairwise kF:=by
 unfold insV;split;exact h;rename_i f;have m:=Ue.1 ((TG (ahead x l) l).symm▸h)
 have i:∀a∈l.take (ahead x l),kF a x:=λa n=>by
  grind [List.mem_iff_getElem,SE,fX7]
 have k:∀b∈l.drop (ahead x l),kF x b:=λb g=>by
  cases c:l[ahead x l]? with
  |none=>
   have:l.length<=ahead x l:=List.getElem?_eq_none_iff.1 c;rw[UW this]at g;cases g
  |some y=>
   have o:kF x y:=fK0 (fQ4 c) (λq=>f (by rw[c,q]))
   have d:l.drop (ahead x l)=y::l.drop (ahead x l+1):=by
    obtain⟨e,j⟩:=Si.1 c;rw[List.drop_eq_getElem_cons e,j]
   grind [fD9,Ua]
 grind [Ua,fD9]
theorem gB5(l:List Vc):(srtV l).Pairwise kF/\∀z,z∈srtV l↔z∈l:=by
 have key:∀(l o:List Vc),o.Pairwise kF->(l.foldl (λo x=>insV x o) o).Pairwise kF/\∀z,z∈l.foldl (λo x=>insV x o) o↔z∈o\/z∈l:=by
  intro l;induction l<;>grind [fY3,gF6]
 grind [List.Pairwise.nil,srtV]
theorem gF1(x:Vc)(l:List Vc):(insV x l).length<=l.length+1:=by
 unfold insV;grind
def gF2(l:List Vc):(srtV l).length<=l.length:=by
 have key:∀(l o:List Vc),(l.foldl (λo x=>insV x o) o).length<=o.length+l.length:=by
  intro l;induction l<;>grind [gF1,SY]
 have:=key l [];simpa [srtV]using this
def comL(s t:Sg)(l:List Vc):List Vc:=l.filter λp=>decB (Com s t p)
def gD6(s t:Sg)(D:List Vc)(x:Vc):comL s t (D++[x])=open Classical in if Com s t x then comL s t D++[x]else comL s t D:=by
 unfold comL;rw[List.filter_append];by_cases h:Com s t x;simp_all [Sj,List.filter_cons,dH];simp_all [RZ,List.filter_cons,dH]
def comS(s t:Sg):List Vc:=srtV (comL s t [s.1,s.2,t.1,t.2])
def gF8{s t:Sg}{p:Vc}:p∈comS s t↔uH s t p/\Com s t p:=by
 grind [gB5,dH,comS,comL,uH]
def gC7{s t:Sg}(k:bI s)(m:bI t):(1< (comS s t).length->dG s t=3)/\((comS s t).length=1->dG s t=1)/\((comS s t).length=0->zT9 s t->dG s t=2)/\((comS s t).length=0->¬zT9 s t->dG s t=0):=by
 have h:=tells k m;have hv:=dM4 (s:=s) (t:=t);have c:=(gB5 (comL s t [s.1,s.2,t.1,t.2])).1;have a:∀p,p∈comS s t↔uH s t p/\Com s t p:=λp=>gF8;change (comS s t).Pairwise kF at c;generalize comS s t=l at*;match l,c,a with
 | [],c,a=>
   have b:¬∃p,uH s t p/\Com s t p:=by
    rintro⟨p,q⟩;have:=(a p).2 q;cases this
   refine⟨λq=>Hl,λq=>Hl,λ_ e=>h.cross.2 ⟨b,e⟩,λ_ e=>?_⟩;rcases hv with q|q|q|q;exact q;exact absurd (h.touch.2 (.inl q)) b;exact absurd (h.cross.1 q).2 e;exact absurd (h.touch.2 (.inr q)) b
 | [x],c,a=>
   refine⟨λq=>Hl,λ_=>?_,λq=>Hl,λq=>Hl⟩;have d:=(a x).1 Af;rcases h.touch.1 ⟨x,d⟩with q|q;exact q;obtain⟨p,p',i,o,r,j,u⟩:=h.over.1 q;have n:=(a p).2 ⟨i,j⟩;grind
 |x::y::l,c,a=>
  refine⟨λ_=>?_,λq=>Hl,λq=>Hl,λq=>Hl⟩;have d:=(a x).1 Af;have g:=(a y).1 Af
  have f:x≠y:=by
   grind [Ua,fJ8]
  exact h.over.2 ⟨x,y,d.1,g.1,f,d.2,g.2⟩
end Go.Proofs.Led
