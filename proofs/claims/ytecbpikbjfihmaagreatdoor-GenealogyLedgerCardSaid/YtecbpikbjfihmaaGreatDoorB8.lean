/- Lemmas. -/
import Derived.Test.YtecbpikbjfihmaaGreatDoorB7
set_option linter.all false
set_option autoImplicit true
set_option relaxedAutoImplicit true
set_option maxRecDepth 100000
set_option maxHeartbeats 8000000
noncomputable section
namespace Go.Proofs.Led
open Go Go.Proofs Go.Ab Tryz
theorem eW1(a:c≠d)(b:Bb (c,d) v)(e:X (dif d c) (dif v c)=0):∃N k,Onp N k c d v:=by
 unfold Bb at b;unfold X dif at e;simp only at b e;by_cases f:c.1=d.1;have j:c.2≠d.2:=λh=>a (Prod.ext f h);by_cases g:c.2<d.2;exact⟨d.2-c.2,v.2-c.2,Aa,Aa,Aa,DY,Int.mul_comm _ _⟩;exact⟨c.2-d.2,c.2-v.2,Aa,Aa,Aa,DY,Bg⟩;by_cases g:c.1<d.1;exact⟨d.1-c.1,v.1-c.1,Aa,Aa,Aa,Int.mul_comm _ _,Bg⟩;exact⟨c.1-d.1,c.1-v.1,Aa,Aa,Aa,Bg,Bg⟩
def cX7(b:bI s)(a:s.1≠s.2)(h:eX s v):∃N k,Onp N k s.1 s.2 v:=by
 grind [gZ,eW1]
def eP6(hs:bI s)(ht:bI t)(c:s.1≠s.2)(j:t.1≠t.2)(hd:xD s t=0)(b:xB s t=0)(hv:Com s t v):∃p,uH s t p/\Com s t p:=by
 let⟨g,i,k,l⟩:=vK s t;have hw:=bZ7 c;have la:onL (dif s.2 s.1) s.1 s.1:=by unfold onL X dif;simp
 have lb:onL (dif s.2 s.1) s.1 s.2:=EQ;have lc:onL (dif s.2 s.1) s.1 t.1:=by unfold onL;rw[g,b];rfl
 have ld:onL (dif s.2 s.1) s.1 t.2:=by unfold onL;rw[i,b,hd];rfl
 have f:=((gZ hs).1 hv.1).2;have lt':∀p,onL (dif s.2 s.1) s.1 p->X (dif t.2 t.1) (dif p t.1)=0:=λp hp=>JR
 have a:∀p,onL (dif s.2 s.1) s.1 p->(Com s t p↔(min (co (dif s.2 s.1) s.1) (co (dif s.2 s.1) s.2)<=co (dif s.2 s.1) p/\co (dif s.2 s.1) p<=max (co (dif s.2 s.1) s.1) (co (dif s.2 s.1) s.2))/\
  (min (co (dif s.2 s.1) t.1) (co (dif s.2 s.1) t.2)<=co (dif s.2 s.1) p/\co (dif s.2 s.1) p<=max (co (dif s.2 s.1) t.1) (co (dif s.2 s.1) t.2))):=λp hp=>by
  exact Ox
 have d:=(a v f).1 hv;rcases(show(co (dif s.2 s.1) s.1=max (min (co (dif s.2 s.1) s.1) (co (dif s.2 s.1) s.2)) (min (co (dif s.2 s.1) t.1) (co (dif s.2 s.1) t.2)))\/(co (dif s.2 s.1) s.2=max (min (co (dif s.2 s.1) s.1) (co (dif s.2 s.1) s.2)) (min (co (dif s.2 s.1) t.1) (co (dif s.2 s.1) t.2)))\/(co (dif s.2 s.1) t.1=max (min (co (dif s.2 s.1) s.1) (co (dif s.2 s.1) s.2)) (min (co (dif s.2 s.1) t.1) (co (dif s.2 s.1) t.2)))\/(co (dif s.2 s.1) t.2=max (min (co (dif s.2 s.1) s.1) (co (dif s.2 s.1) s.2)) (min (co (dif s.2 s.1) t.1) (co (dif s.2 s.1) t.2))) from Aa)with h|h|h|h;exact⟨s.1, .inl rfl,(a _ la).2 Aa⟩;exact⟨s.2, .inr (.inl rfl),(a _ lb).2 Aa⟩;exact⟨t.1, .inr (.inr (.inl rfl)),(a _ lc).2 Aa⟩;exact⟨t.2, .inr (.inr (.inr rfl)),(a _ ld).2 Aa⟩
def eK6(h:Onp N k c d v) u w:(0<X u (dif c w)->0<X u (dif d w)->0<X u (dif v w))/\(X u (dif c w)<0->X u (dif d w)<0->X u (dif v w)<0):=by
 let⟨a,b,f,g,i⟩:=h;have e:N*X u (dif v w)=(N-k)*X u (dif c w)+k*X u (dif d w):=AQ;have j:=sgn N (X u (dif v w));have l:=sgn (N-k) (X u (dif c w));have m:=sgn k (X u (dif d w));grind
theorem eZ7(c:bI s)(d:bI t)(e:s.1≠s.2)(f:t.1≠t.2)(n:dG s t=0)(a:eX s v)(b:eX t v):False:=by
 let⟨N,k,l⟩:=cX7 c e a;let⟨M,j,m⟩:=cX7 d f b;have x:=((gZ c).1 a).2;have y:=((gZ d).1 b).2;have g:=eK6 m (dif s.2 s.1) s.1;have i:=eK6 l (dif t.2 t.1) t.1;rcases rC c d e n with q|q|q|q|q;omega;omega;omega;omega;let⟨o,r,u,w⟩:=vK s t;have:=(tells c d).touch.1 (eP6 c d e f Aa Aa ⟨a,b⟩);omega
def dM4:dG s t=0\/dG s t=1\/dG s t=2\/dG s t=3:=by
 unfold dG kQ;split;exact .inl rfl;split;unfold lines;simp only;split;exact .inl rfl;grind [aH6];split;exact .inr (.inl rfl);split;exact .inr (.inl rfl);split;exact .inl rfl;unfold yD;split;exact .inr (.inl rfl);split;exact .inr (.inr (.inr rfl));exact .inl rfl
def eD0:uH s t p/\Com s t p↔uH t s p/\Com t s p:=by
 unfold uH Com;constructor;grind;grind
def bS4(c:bI s)(d:bI t):dG s t=0↔(¬∃p,uH s t p/\Com s t p)/\¬zT9 s t:=by
 have h:=tells c d;have hv:=dM4 (s:=s) (t:=t);constructor;intro f;have e:¬∃p,uH s t p/\Com s t p:=λq=>by have:=h.touch.1 q;omega
 exact⟨e,λq=>by have:=h.cross.2 ⟨e,q⟩;omega⟩;rintro⟨a,b⟩;rcases hv with q|q|q|q;exact q;exact absurd (h.touch.2 (.inl q)) a;exact absurd (h.cross.1 q).2 b;exact absurd (h.touch.2 (.inr q)) a
def dS2(a:bI s)(b:bI t)(h:dG s t=0):dG t s=0:=by
 rw[bS4 a b]at h;rw[bS4 b a];refine⟨λ⟨p,c⟩=>h.1 ⟨p,eD0.1 c⟩,λq=>h.2 ?_⟩;exact⟨q.2,q.1⟩
def vV(h:3<=r.length):bF r=dD (λi=>r.getD i z0) r.length:=by
 unfold bF dD;rw[Q9 Aa];refine Ti (λi hi=>?_);have:=Tf.1 hi;rw[Nat.mod_eq_of_lt this];rfl
def bC9(h:3<=r.length):e∈bF r↔∃i,i<r.length/\e=aJ4 r i:=by
 unfold bF;rw[Q9 Aa,Rn];constructor;rintro⟨i,hi,rfl⟩;exact⟨i,Tf.1 hi,rfl⟩;rintro⟨i,hi,rfl⟩;exact⟨i,Tf.2 hi,rfl⟩
def vN(a:bR7 r)(hv:v∈r):Sm4 v:=by
 have:=a v hv;rw[within_iff Aa]at this;unfold Sm4;omega
theorem aG8(h:dM r)(f:e∈bF r):e.1≠e.2:=by
 obtain⟨i,hi,rfl⟩:=(bC9 h.1).1 f;intro g;have j:=h.2.2.2.2.1 i hi;apply j;have b:=vN h.2.2.1 (aE1 hi);have c:=vN h.2.2.1 (v:=mY r i) (aE1 (SC _ Aa));have d:=vN h.2.2.1 (bA6 hi);rw[zH c b d];have a:r.getD i z0=iU r i:=g;rw[a];have:X (dif (iU r i) (mY r i)) (dif (iU r i) (mY r i))=0:=by unfold X;rw[Int.mul_comm];omega
 rw[this];rfl
def bH8(d:Sm4 p):∀ {l} {b},(∀e∈l,bI e)->(∀e∈l,¬eX e p)->lU (p.1,p.2,1) l b=if(b^^par p l)=true then 2 else 0
 | [],b,_,_=>by
   rw[qB];show _=if(b^^false)=true then 2 else 0
   rw[Bool.xor_false]
 |e::l,b,a,c=>by
  have g:=a e Ad;have i:=c e Ad;have j:=λq=>i ((cC3 d g).1 q);have f:par p (e::l)=(decB (ray e p)^^par p l):=rfl;have k:=λb=>bH8 d (l:=l) (b:=b) (λx hx=>a x BI) (λx hx=>c x BI);grind [rE,dH,dD7,jD,dW,ray]
def onR(r:Rg)(v:Vc):Prop:=∃e∈bF r,eX e v
theorem nZ(h:dM r)(hv:Sm4 v):fJ r v=1↔onR r v:=by
 rw[aC1 (pY.2 hv),aD9 h (bC7 hv),yZ];constructor;rintro⟨e,a,q⟩;exact⟨e,a,(cC3 hv (jO h.2.2.1 a)).1 q⟩;rintro⟨e,a,q⟩;exact⟨e,a,(cC3 hv (jO h.2.2.1 a)).2 q⟩
theorem zS9(h:dM r)(hv:Sm4 v)(b:¬onR r v):fJ r v=if par v (bF r)=true then 2 else 0:=by
 rw[aC1 (pY.2 hv),aD9 h (bC7 hv),bH8 hv (λe a=>jO h.2.2.1 a) (λe a q=>b ⟨e,a,q⟩),Bool.false_xor]
def zD(h:dM r)(hv:Sm4 v):fJ r v=2↔¬onR r v/\par v (bF r)=true:=by
 constructor;grind [nZ,zS9];simp_all [zS9,QU]
def aE8(h:dM r)(hv:Sm4 v):fJ r v=0↔¬onR r v/\par v (bF r)=false:=by
 grind [nZ,zS9]
structure Apart(a b:Rg):Prop where
 oa:dM a
 ob:dM b
 ap:uV a b
def Apart.symm(h:Apart a b):Apart b a:=⟨h.ob,h.oa,λx c y d=>dS2 (jO h.oa.2.2.1 d) (jO h.ob.2.2.1 c) (h.ap y d x c)⟩
def Apart.sep(h:Apart a b)(c:f∈bF a)(d:g∈bF b):Sep f.1 f.2 g:=
 rC (jO h.oa.2.2.1 c) (jO h.ob.2.2.1 d) (aG8 h.oa c) (h.ap f c g d)
def Apart.off(h:Apart a b)(hv:onR a v):¬onR b v:=by
 rintro⟨g,d,q⟩;let⟨f,c,p⟩:=hv;exact eZ7 (jO h.oa.2.2.1 c) (jO h.ob.2.2.1 d) (aG8 h.oa c) (aG8 h.ob d) (h.ap f c g d) p q
def Apart.along(h:Apart a b)(c:f∈bF a)(hv:eX f v):par v (bF b)=par f.2 (bF b):=by
 let⟨N,k,e⟩:=cX7 (jO h.oa.2.2.1 c) (aG8 h.oa c) hv;rw[vV h.ob.1];exact eY9 _ _ e (λg d=>h.sep c (by rw[vV h.ob.1];exact d))
def vert_onR(h:dM r)(hv:v∈r):onR r v:=by
 obtain⟨e,a,rfl⟩:=bC8 h.1 hv;exact⟨e,a,rH (jO h.2.2.1 a)⟩
def vH(h:dM r)(a:e∈bF r):e.1∈r/\e.2∈r:=by
 obtain⟨i,hi,rfl⟩:=(bC9 h.1).1 a;exact⟨aE1 hi,bA6 hi⟩
def Apart.const(h:Apart a b):∀i,i<a.length->par (a.getD i z0) (bF b)=par (a.getD 0 z0) (bF b):=by
 intro i;induction i with
 |zero=>intro _;rfl
 |succ i e=>
  intro hi;rw[<-e Aa];have c:=(bC9 h.oa.1).2 ⟨i,Aa,rfl⟩;have k:=h.along c (rH (jO h.oa.2.2.1 c))
  have d:(aJ4 a i).2=a.getD (i+1) z0:=by
   show iU a i=_;unfold iU;rw[Nat.mod_eq_of_lt hi]
  rw[d]at k;exact k.symm
def Apart.fC0(h:Apart a b)(d:u∈a)(hv:v∈a):par u (bF b)=par v (bF b):=by
 obtain⟨i,hi,rfl⟩:=List.mem_iff_getElem.1 d;obtain⟨j,c,rfl⟩:=List.mem_iff_getElem.1 hv;have e:=h.const i hi;have f:=h.const j c;simp_all
def eB8:∀ {l:List Vc},l≠ []->∃m∈l,∀v∈l,v.2<=m.2
 | [],h=>absurd rfl h
 | [x],_=>⟨x,Ad,λv hv=>by rw[Ri.1 hv];omega⟩
 |x::y::l,_=>by
  let⟨m,a,b⟩:=eB8 (l:=y::l) Ad;by_cases h:m.2<=x.2;grind;grind
def Apart.outer(c:Apart h o)(f:pR h o 2):∀v∈o,par v (bF h)=false:=by
 have g:o≠ [] :=λq=>by have:=c.ob.1;rw[q]at this;simp at this
 let⟨m,p,b⟩:=eB8 g
 have a:∀u∈h,u.2<=m.2:=by
  intro u l;by_cases r:u.2<=m.2;exact r;have k:=((zD c.ob (vN c.oa.2.2.1 l)).1 (f u l)).2
  rw[dH1 (λe d=>by
   let⟨i,j⟩:=vH c.ob d;have:=b _ i;have:=b _ j;omega)]at k
  cases k
 have n:=dH1 (λe d=>by
  let⟨i,j⟩:=vH c.oa d;exact⟨a _ i,a _ j⟩)
 intro v hv;rw[<-n];exact c.symm.fC0 hv p
def Apart.inner(ha:Apart h o)(hin:pR h o 2)(hv:Sm4 v)(l:fJ h v≠0):fJ o v=2:=by
 rw[zD ha.ob hv];by_cases d:onR h v;refine⟨ha.off d,?_⟩;let⟨f,hf,q⟩:=d;rw[ha.along hf q];exact PY
 have b:par v (bF h)=true:=by
  cases k:par v (bF h)
  exact absurd ((aE8 ha.oa hv).2 ⟨d,k⟩) l;rfl
 have c:=ha.outer hin;constructor;rintro⟨g,a,q⟩;have:=ha.symm.along a q;rw[b,c _ (vH ha.ob a).2]at this;cases this;have j:=vV ha.ob.1;have e:=vV ha.oa.1;rw[j];rw[e]at b;refine cT7 (vh:=λi=>h.getD i z0) (nh:=h.length) ?_ ?_ ?_ ?_ ?_ ?_ ?_ b;intro g a;rw[<-j]at a;exact jO ha.ob.2.2.1 a;intro f hf;rw[<-e]at hf;exact jO ha.oa.2.2.1 hf;intro f hf g a;rw[<-e]at hf;rw[<-j]at a;exact⟨ha.ap f hf g a,ha.symm.ap g a f hf⟩;intro f hf;rw[<-e]at hf;exact aG8 ha.oa hf;intro g a;rw[<-j]at a;exact aG8 ha.ob a;intro f hf;rw[<-e]at hf;rw[<-j];exact PY;intro g a;rw[<-j]at a;rw[<-e];exact c _ (vH ha.ob a).2
def Apart.beside(a:Apart h k)(c:pR h k 0)(b:onR h v)(hv:Sm4 v):fJ k v=0:=by
 rw[aE8 a.ob hv];refine⟨a.off b,?_⟩;let⟨f,e,q⟩:=b;rw[a.along e q];have d:=(vH a.oa e).2;exact((aE8 a.ob (vN a.oa.2.2.1 d)).1 (c _ d)).2
def bK3:∀ {l pre},qR o pre l->(∀r∈l,dM r)->dM o->∀h∈l,Apart h o/\pR h o 2
 | [],_,_,_,_,h,a=>by cases a
 |x::l,pre,b,d,c,h,a=>by
  rcases Rl.1 a with rfl|a;exact⟨⟨d h Ad,c,b.1.2.1⟩,b.1.1⟩;exact bK3 b.2 (λr q=>d r (by simp[q])) c h a
def bK4(a:bG s)(b:h∈s.holes):Apart h s.outer/\pR h s.outer 2:=
 bK3 a.2.2.2 (λr hr=>a.2.1 r BU) (a.2.1 s.outer AU) h b
def bF4:∀ {l pre},qR o pre l->∀ {i j} {a b},i<j->(pre++l)[i]? =some a->l[j-pre.length]? =some b->pre.length<=j->uV b a/\pR b a 0/\pR a b 0
 | [],pre,_,i,j,a,b,c,d,hb,k=>I8
 |x::l,pre,e,i,j,a,b,c,d,hb,k=>by
  by_cases f:j=pre.length;subst f;rw[Nat.sub_self]at hb;cases hb
  have g:a∈pre:=by
   grind
  exact e.1.2.2 a g;refine bF4 (l:=l) (pre:=pre++[x]) e.2 c (by rw[Tn];exact d) ?_ AY;grind
def cS9(d:bG s){i j:Nat}(c:i<j)(e:s.holes[i]? =some a)(f:s.holes[j]? =some b):Apart b a/\pR b a 0/\pR a b 0:=by
 have h:=bF4 (pre:=[]) d.2.2.2 c e f (RY _);exact⟨⟨d.2.1 b (by unfold rings;simp[QZ f]),d.2.1 a (by unfold rings;simp[QZ e]),h.1⟩,h.2⟩
def lG(v:Vc)(o:Int):List Rg->Int
 | [] =>o
 |h::l=>if fJ h v=2 then 0 else if fJ h v=1 then 1 else lG v o l
def cJ3:fJ r v=0\/fJ r v=1\/fJ r v=2:=by
 grind [fL3,fJ,iF]
def cI4(hv:Sm4 v):iF r (v.1,v.2,1)=fJ r v:=(aC1 (pY.2 hv)).symm
def bT3(hv:Sm4 v) o:∀l,qG o (v.1,v.2,1) l=lG v o l
 | [] =>rfl
 |h::l=>by
  rw[qG,lG,cI4 hv,bT3 hv o l]
theorem tH:∀ {l},(∀h∈l,fJ h v=0)->lG v o l=o
 | [],_=>rfl
 |h::l,a=>by
  simp_all [Q9,tH,lG]
def eG3(b:bG s)(hv:Sm4 v):lJ s v=lG v (fJ s.outer v) s.holes:=by
 unfold lJ;rw[QU (pY.2 hv)];unfold qW;rw[QU b,cI4 hv,bT3 hv];by_cases d:∃h∈s.holes,fJ h v≠0;let⟨h,e,f⟩:=d;let⟨c,a⟩:=bK4 b e;rw[c.inner a hv f,QU rfl];grind [tH]
def fD8(c:bG s)(hv:Sm4 v):lJ s v=1↔∃r∈rings s,onR r v:=by
 have A:dM s.outer:=c.2.1 _ AU;rw[eG3 c hv];constructor;intro h;by_cases y:∃h∈s.holes,fJ h v=1;let⟨r,e,B⟩:=y;exact⟨r,by unfold rings;simp[e],(nZ (c.2.1 r (by unfold rings;simp[e])) hv).1 B⟩
 have key:∀l,(∀r∈l,fJ r v≠1)->lG v (fJ s.outer v) l=1->fJ s.outer v=1:=by
  intro l;induction l with
  |nil=>intro _ h;exact h
  |cons x l t=>
   intro q h;rw[lG]at h;grind
 grind [nZ,rings];rintro⟨r,hr,b⟩;rcases Rl.1 (show r∈s.outer::s.holes from hr)with rfl|hr
 have u:=λh e=>by
  obtain⟨f,g⟩:=bK4 c e;by_cases q:fJ h v=0;exact q;have:=f.inner g hv q;have:=(nZ A hv).2 b;omega
 grind [tH,nZ];let⟨j,m⟩:=List.mem_iff_getElem?.1 hr;have d:=c.2.1 r BU;have C:=(nZ d hv).2 b
 have key:∀ l  n ,(∀i a,l[i]? =some a->s.holes[n+i]? =some a)->n<=j->l[j-n]? =some r->lG v (fJ s.outer v) l=1:=by
  intro l;induction l with
  |nil=>intro n _ _ h;simp at h
  |cons x l t=>
   intro n o E F;rw[lG];by_cases z:j=n;simp_all;have k:=o 0 x rfl;let⟨f,w,D⟩:=cS9 c (i:=n) (j:=j) Aa k m;have u:=f.beside w b hv;rw[Q9 Aa,Q9 Aa];refine t (n+1) (λi a hi=>?_) Aa ?_;rw[TS,Nat.add_comm 1];exact o (i+1) a (by rw[SE];exact hi);grind
 exact key s.holes 0 (λi a h=>by rw[SX];exact h) (RY _) m
def Dt(u v:Vc):Int:=u.1*v.1+u.2*v.2
def SmV(u:Vc):Prop:=Sm u.1/\Sm u.2
theorem mD(a:SmV u)(hv:SmV v):bZ u v=X u v:=iK a.1 a.2 hv.1 hv.2
theorem aE6(a:SmV u)(hv:SmV v):vdot u v=Dt u v:=bY4 a.1 a.2 hv.1 hv.2
def aP5(u v:Vc):Prop:=bZ u v=0/\0<vdot u v
def dG5(u v:Vc):Prop:=bZ u v<0\/(bZ u v=0/\vdot u v<0)
open Classical in
def aP1(x:Sg)(d:Vc):Prop:=if aP5 x.1 d\/aP5 x.2 d then False else if¬(dG5 x.1 d↔dG5 x.1 x.2)then dG5 x.1 x.2 else 0<bZ d x.2
def dI3(x y:Sg):Prop:=aP5 x.1 y.1\/aP1 x y.1\/aP1 y x.1
def dN3{n c e b f i m:Int}(s:0<n)(q:n*i=e*b-c*f)(r:n*m=e*f+c*b)(t:¬(c=0/\e=0))(u:¬(b=0/\0<=f)):
 (((if 0<c then 0 else if c<0 then 2 else if e<0 then(1:Int)else 3)< (if 0<b then 0 else if b<0 then 2 else if f<0 then 1 else 3))\/
   ((if 0<c then 0 else if c<0 then 2 else if e<0 then(1:Int)else 3)=(if 0<b then 0 else if b<0 then 2 else if f<0 then 1 else 3)/\(if 0<c then 0 else if c<0 then 2 else if e<0 then(1:Int)else 3)≠3/\0<i))↔
 ¬((c=0/\0<e)\/(i=0/\0<m))/\((¬((c<0\/(c=0/\e<0))↔(b<0\/(b=0/\f<0)))/\(b<0\/(b=0/\f<0)))\/(((c<0\/(c=0/\e<0))↔(b<0\/(b=0/\f<0)))/\0<i)):=by
 have k:=fK2 (G:=i) s;have l:=fK2 (G:=m) s;rw[q]at k;rw[r]at l;rcases Int.lt_trichotomy c 0 with d|d|d
 ·rw[Q9 (show¬0<c from Aa),QU (show c<0 from Aa)]
  rcases Int.lt_trichotomy b 0 with a|a|a
  ·omega
  ·have g:f<0:=by omega
   have o:=Int.mul_pos_of_neg_of_neg d g;grind
  ·rw[QU a]
   omega
 ·rw[Q9 (show¬0<c from Aa),Q9 (show¬c<0 from Aa)]
  by_cases j:e<0
  ·rw[QU j]
   rcases Int.lt_trichotomy b 0 with a|a|a
   ·have o:=Int.mul_pos_of_neg_of_neg j a
    grind
   ·omega
   ·rw[QU a]
    omega
  ·grind
 ·rw[QU d]
  rcases Int.lt_trichotomy b 0 with a|a|a
  ·rw[Q9 (show¬0<b from Aa),QU (show b<0 from Aa)]
   have o:=Int.mul_neg_of_pos_of_neg d a;have v:=sgn e b;have w:=sgn c f;have x:=sgn e f;grind
  ·have g:f<0:=by omega
   have o:=Int.mul_neg_of_pos_of_neg d g;grind
  ·rw[QU a]
   omega
def lag u v w:Dt u u*X v w=Dt u v*X u w-X u v*Dt u w/\Dt u u*Dt v w=Dt u v*Dt u w+X u v*X u w:=by
 unfold Dt X;constructor<;>grind
def cY3{u:Vc}(h:u≠(0,0)):0<Dt u u:=by
 unfold Dt;have a:=sgn u.1 u.1;have b:=sgn u.2 u.2;grind
theorem cP3{u v:Vc}(c:u≠(0,0))(hv:v≠(0,0)):¬(X u v=0/\Dt u v=0):=by
 rintro⟨a,b⟩;have k:=(lag u v v).2;rw[a,b,Int.zero_mul]at k;have d:=cY3 c;have e:=cY3 hv;have:=Int.mul_pos d e;omega
def eQ2(a:SmV u)(hv:SmV v)(b:u≠(0,0))(c:v≠(0,0)):jS u v=3↔aP5 u v:=by
 grind [cP3,mD,aE6,jS,aP5]
structure SecG(x:Sg):Prop where
 s1:SmV x.1
 s2:SmV x.2
 n1:x.1≠(0,0)
 n2:x.2≠(0,0)
 ne:¬(X x.1 x.2=0/\0<=Dt x.1 x.2)
theorem eB7 u v:X u v= -X v u:=by unfold X;grind
theorem dH3 u v:Dt u v=Dt v u:=by unfold Dt;grind
def bQ9(a:SecG x)(b:SmV d)(nd:d≠(0,0)):oG x d↔aP1 x d:=by
 let⟨c,e⟩:=lag x.1 d x.2;have key:=dN3 (cY3 a.n1) c e (cP3 a.n1 nd) a.ne;unfold oG aP1 jS aP5 dG5;rw[mD a.s1 b,aE6 a.s1 b,mD a.s1 a.s2,aE6 a.s1 a.s2,mD b a.s2,mD a.s2 b,aE6 a.s2 b,eB7 x.2 d,dH3 x.2 d];grind
def bJ4(a:SmV u)(hv:SmV v)(h:aP5 u v):aP5 v u:=by
 grind [mD,aE6,eB7,dH3,aP5]
theorem fD6(a:SecG x)(b:SecG y):jH y x↔dI3 x y:=by
 unfold jH dI3;rw[bQ9 b a.s1 a.n1,bQ9 a b.s1 b.n1,eQ2 b.s1 a.s1 b.n1 a.n1];constructor;rintro(h|h|h);exact .inl (bJ4 b.s1 a.s1 h);exact .inr (.inr h);exact .inr (.inl h);rintro(h|h|h);exact .inl (bJ4 a.s1 b.s1 h);exact .inr (.inr h);exact .inr (.inl h)
def fU1{a b x y:Int}(c:0<a)(d:0<b)(h:a*x=b*y):(0<x↔0<y)/\(x<0↔y<0)/\(x=0↔y=0):=by
 let⟨e,f⟩:=fK2 (G:=x) c;let⟨g,i⟩:=fK2 (G:=y) d;omega
def Dir(u v:Vc):Prop:=∃N m,0<N/\0<m/\N*u.1=m*v.1/\N*u.2=m*v.2
def dir_refl u:Dir u u:=⟨1,1,Ai,Ai,rfl,rfl⟩
def aQ9(h:Dir u a)(hv:Dir v v'):((0<X u v↔0<X a v')/\(X u v<0↔X a v'<0)/\(X u v=0↔X a v'=0))/\((0<Dt u v↔0<Dt a v')/\(Dt u v<0↔Dt a v'<0)/\(Dt u v=0↔Dt a v'=0)):=by
 let⟨N,m,c,e,i,j⟩:=h;let⟨M,k,b,d,l,n⟩:=hv
 have f:(N*M)*X u v=(m*k)*X a v':=by
  unfold X;grind
 have g:(N*M)*Dt u v=(m*k)*Dt a v':=by
  grind [Dt]
 exact⟨fU1 (Int.mul_pos c b) (Int.mul_pos e d) f,fU1 (Int.mul_pos c b) (Int.mul_pos e d) g⟩
def cF1(d:Dir u c)(h:c≠(0,0)):u≠(0,0):=by
 let⟨N,m,e,f,a,b⟩:=d;intro q;grind [Int.mul_eq_zero]
def DirS(x y:Sg):Prop:=Dir x.1 y.1/\Dir x.2 y.2
def bI4(e:SmV u)(c:SmV a)(f:SmV v)(d:SmV v')(b:Dir u a)(hv:Dir v v'):jS u v=jS a v':=by
 have k:=aQ9 b hv;simp_all [mD,aE6,QU,Q9,jS]
def bP8(g:SmV x.1)(a:SmV x'.1)(i:SmV x.2)(b:SmV x'.2)(j:SmV d)(c:SmV e)(h:DirS x x')(f:Dir d e):oG x d↔oG x' e:=by
 unfold oG;rw[bI4 g a j c h.1 f,bI4 g a i b h.1 h.2,mD j i,mD c b];have k:=(aQ9 f h.2).1.1;rw[k]
def fD7(c:SmV x.1/\SmV x.2)(a:SmV x'.1/\SmV x'.2)(d:SmV y.1/\SmV y.2)(b:SmV e.1/\SmV e.2)(f:DirS x x')(g:DirS y e):jH y x↔jH e x':=by
 unfold jH;rw[bI4 d.1 b.1 c.1 a.1 g.1 f.1,bP8 d.1 b.1 d.2 b.2 c.1 a.1 g f.1,bP8 c.1 a.1 c.2 a.2 d.1 b.1 f g.1]
def secG_dir(h:DirS x x')(b:SmV x.1/\SmV x.2)(a:SecG x'):SecG x:=by
 have k:=aQ9 h.1 h.2;refine⟨b.1,b.2,cF1 h.1 a.n1,cF1 h.2 a.n2,λq=>a.ne ?_⟩;omega
def fT6(r:Rg)(i:Nat):Int:=kR (r.getD i z0) (r.getD ((i+1)% r.length) z0) (r.getD ((i+2)% r.length) z0)
theorem fN2(h:i<n):((i+1)% n+n-1)% n=i:=by
 by_cases a:i+1=n;rw[a,Nat.mod_self,SX,Nat.mod_eq_of_lt Aa];omega;rw[Nat.mod_eq_of_lt (show i+1<n from Aa),show i+1+n-1=i+n from Aa,Nat.add_mod_right,Nat.mod_eq_of_lt h]
theorem fY2(h:i<r.length):fT6 r i=kR (mY r ((i+1)% r.length)) (r.getD ((i+1)% r.length) z0) (iU r ((i+1)% r.length)):=by
 unfold fT6 mY iU;rw[fN2 h,Nat.mod_add_mod]
theorem fU3:(∀i,i<r.length->kR (mY r i) (r.getD i z0) (iU r i)≠0)↔∀i,i<r.length->fT6 r i≠0:=by
 constructor;grind [fY2,SC];intro h i hi;have a:(i+r.length-1)% r.length<r.length:=SC _ Aa;have k:=h _ a;rw[fY2 a]at k
 have e:((i+r.length-1)% r.length+1)% r.length=i:=by
  by_cases b:i=0;subst b;rw[Nat.mod_eq_of_lt (show 0+r.length-1<r.length from Aa),show 0+r.length-1+1=r.length from Aa,Nat.mod_self];rw[show i+r.length-1=(i-1)+r.length from Aa,Nat.add_mod_right,Nat.mod_eq_of_lt (show i-1<r.length from Aa),show i-1+1=i from Aa,Nat.mod_eq_of_lt hi]
 rw[e]at k;exact k
def fZ9(hs:bI s)(ht:bI t)(h:t.1=s.2)(hd:xD s t≠0):dG s t=1:=by
 have hA:xA s t=xD s t:=by unfold xA xD;rw[h]
 have hB:xB s t=0:=by unfold xB;rw[h];unfold X;rw[Int.mul_comm];omega
 exact P8
def fX6(hs:bI s)(ht:bI t)(h:t.2=s.1)(hd:xD s t≠0):dG s t=1:=by
 have hA:xA s t=0:=by
  unfold xA;unfold X dif;grind
 have hB:xB s t=xD s t:=by
  unfold xB xD;unfold X dif;grind
 exact P8
def adj(n i k:Nat):Prop:=k=i+1\/(i=0/\k=n-1)
def fM5(r:Rg)(i k:Nat):Prop:=(adj r.length i k->dG ((bF r).getD i (z0,z0)) ((bF r).getD k (z0,z0))=1)/\(¬adj r.length i k->dG ((bF r).getD i (z0,z0)) ((bF r).getD k (z0,z0))=0)
def fH0(a:3<=r.length)(hi:i<r.length):(bF r).getD i (z0,z0)=aJ4 r i:=by
 unfold bF;grind
def fH4(d:Sm4 a)(f:Sm4 b)(g:Sm4 c)(h:kR a b c≠0):X (dif b a) (dif c b)≠0:=by
 rw[zH d f g,tC]at h;have e:X (dif b a) (dif c b)=X (dif b a) (dif c a):=AQ;rw[e];exact h
def gG1(e:3<=r.length)(d:bR7 r)(g:∀i,i<r.length->fT6 r i≠0)(o:i<k)(c:k<r.length)(n:adj r.length i k):
 dG ((bF r).getD i (z0,z0)) ((bF r).getD k (z0,z0))=1:=by
 have a:=λj s=>jO d ((bC9 e).2 ⟨j,s,rfl⟩);have b:∀j,Sm4 (r.getD (j% r.length) z0):=λj=>vN d (aE1 (SC _ Aa));rw[fH0 e Aa,fH0 e c];rcases n with rfl|⟨rfl,rfl⟩
 ·refine fZ9 (a i Aa) (a _ c) ?_ ?_
  ·show r.getD (i+1) z0=iU r i
   unfold iU;rw[Nat.mod_eq_of_lt c]
  ·have:=fH4 (vN d (aE1 Aa)) (b (i+1)) (b (i+2)) (g i Aa)
   show X (dif (iU r i) (r.getD i z0)) (dif (iU r (i+1)) (r.getD (i+1) z0))≠0;grind [Nat.mod_eq_of_lt,iU]
 ·refine fX6 (a 0 Aa) (a _ c) ?_ ?_
  ·show iU r (r.length-1)=r.getD 0 z0
   unfold iU;rw[show r.length-1+1=r.length from Aa,Nat.mod_self]
  ·have:=fH4 (vN d (aE1 c)) (b (r.length-1+1)) (b (r.length-1+2)) (g (r.length-1) c)
   have f:(r.length-1+1)% r.length=0:=EC;have l:(r.length-1+2)% r.length=1:=Ci;rw[f,l]at this;show X (dif (iU r 0) (r.getD 0 z0)) (dif (iU r (r.length-1)) (r.getD (r.length-1) z0))≠0;unfold iU;rw[f,SX,Nat.mod_eq_of_lt (show 1<r.length from Aa)];intro q;apply this;have m:X (dif (r.getD 0 z0) (r.getD (r.length-1) z0)) (dif (r.getD 1 z0) (r.getD 0 z0))= -X (dif (r.getD 1 z0) (r.getD 0 z0)) (dif (r.getD 0 z0) (r.getD (r.length-1) z0)):=by unfold X;grind
   rw[m,q];rfl
def fR4:dM r↔(3<=r.length/\r.length<=40/\bR7 r/\(∀i,i<r.length->fT6 r i≠0)/\(∀i k,i<k->k<r.length->fM5 r i k)/\0<zY r):=by
 unfold dM;rw[fU3];constructor;rintro⟨d,h,e,j,f,l⟩;refine⟨d,h,e,f,λi k a g=>⟨λm=>gG1 d e f a g m,λc=>?_⟩,j⟩;refine l i k a g (λq=>c (.inl q)) ?_;by_cases q:i=0;exact .inr (λb=>c (.inr ⟨q,b⟩));exact .inl q;rintro⟨d,h,e,j,f,l⟩;refine⟨d,h,e,l,j,λi k a g o b=>?_⟩;refine(f i k a g).2 ?_;rintro(q|⟨q,n⟩);exact o q;rcases b with b|b;exact b q;exact b n
theorem fD9(d:kF a b)(e:kF b c):kF a c:=by
 rw[aG2]at*;omega
theorem fJ8(c:kF a b)(d:kF b a):False:=by
 rw[aG2]at*;omega
theorem fK0(c:¬kF a b)(d:a≠b):kF b a:=by
 grind [aG2]
def ahead(x:Vc)(l:List Vc):Nat:=(l.takeWhile λy=>decB (kF y x)).length
def insV(x:Vc)(l:List Vc):List Vc:=open Classical in
 if l[ahead x l]? =some x then l else l.take (ahead x l)++x::l.drop (ahead x l)
def srtV(l:List Vc):List Vc:=l.foldl (λo x=>insV x o) []
def gD1 D x:srtV (D++[x])=insV x (srtV D):=by unfold srtV;rw[TR];rfl
theorem fW5 x l:ahead x l<=l.length:=by
 grind [List.takeWhile_sublist,ahead]
theorem fU7{a:Type}{p}:∀ {l:List a} {z},z∈l.takeWhile p->p z=true
 | [],z,h=>Ah
 |y::l,z,h=>by
  rw[Ut]at h;split at h;rcases Rl.1 h with rfl|h;assumption;exact fU7 h;cases h
theorem fX7(hi:i<ahead x l) h:kF l[i] x:=by
 have a:=(List.takeWhile_prefix _).getElem hi;grind [TL,fU7,dH]
def fQ4:∀ {l} {y},l[ahead x l]? =some y->¬kF y x
 | [],y,h=>Ah
 |z::l,y,h=>by
  unfold ahead at h;rw[Ut]at h;by_cases a:kF z x;rw[QU (dH.2 a),Ro,SE]at h;exact fQ4 h;simp_all [Q9,dH]
theorem gF6:z∈insV x l↔z=x\/z∈l:=by
 grind [QZ,SG,RP,RQ,insV]
theorem fY3(h:l.Pairwise kF):(insV x l).Pairwise kF:=by
 unfold insV;split;exact h;rename_i f;have m:=Si.1 ((SG (ahead x l) l).symm▸h)
 have i:∀a∈l.take (ahead x l),kF a x:=λa n=>by
  grind [List.mem_iff_getElem,Rk,fX7]
 have k:∀b∈l.drop (ahead x l),kF x b:=λb g=>by
  cases c:l[ahead x l]? with
  |none=>
   have:l.length<=ahead x l:=List.getElem?_eq_none_iff.1 c;rw[UI this]at g;cases g
  |some y=>
   have o:=fK0 (fQ4 c) (λq=>f (by rw[c,q]))
   have d:l.drop (ahead x l)=y::l.drop (ahead x l+1):=by
    let⟨e,j⟩:=QW.1 c;rw[List.drop_eq_getElem_cons e,j]
   grind [fD9,S9]
 grind [S9,fD9]
theorem gB5 l:(srtV l).Pairwise kF/\∀z,z∈srtV l↔z∈l:=by
 have key:∀(l o:List Vc),o.Pairwise kF->(l.foldl (λo x=>insV x o) o).Pairwise kF/\∀z,z∈l.foldl (λo x=>insV x o) o↔z∈o\/z∈l:=by
  intro l;induction l<;>grind [fY3,gF6]
 grind [List.Pairwise.nil,srtV]
theorem gF1 x l:(insV x l).length<=l.length+1:=by
 unfold insV;grind
def gF2 l:(srtV l).length<=l.length:=by
 have key:∀(l o:List Vc),(l.foldl (λo x=>insV x o) o).length<=o.length+l.length:=by
  intro l;induction l<;>grind [gF1,Ro]
 have:=key l [];simpa [srtV]using this
def comL(s t:Sg)(l:List Vc):List Vc:=l.filter λp=>decB (Com s t p)
def gD6 s t D x:comL s t (D++[x])=open Classical in if Com s t x then comL s t D++[x]else comL s t D:=by
 unfold comL;by_cases h:Com s t x;simp_all [QU,List.filter_cons,dH];simp_all [Q9,List.filter_cons,dH]
def comS(s t:Sg):List Vc:=srtV (comL s t [s.1,s.2,t.1,t.2])
def gF8:p∈comS s t↔uH s t p/\Com s t p:=by
 grind [gB5,dH,comS,comL,uH]
def gC7(k:bI s)(m:bI t):(1< (comS s t).length->dG s t=3)/\((comS s t).length=1->dG s t=1)/\((comS s t).length=0->zT9 s t->dG s t=2)/\((comS s t).length=0->¬zT9 s t->dG s t=0):=by
 have h:=tells k m;have hv:=dM4 (s:=s) (t:=t);have c:=(gB5 (comL s t [s.1,s.2,t.1,t.2])).1;have a:∀p,p∈comS s t↔uH s t p/\Com s t p:=λp=>gF8;change (comS s t).Pairwise kF at c;generalize comS s t=l at*;match l,c,a with
 | [],c,a=>
   have b:¬∃p,uH s t p/\Com s t p:=by
    rintro⟨p,q⟩;have:=(a p).2 q;cases this
   refine⟨λq=>GX,λq=>GX,λ_ e=>h.cross.2 ⟨b,e⟩,λ_ e=>?_⟩;rcases hv with q|q|q|q;exact q;exact absurd (h.touch.2 (.inl q)) b;exact absurd (h.cross.1 q).2 e;exact absurd (h.touch.2 (.inr q)) b
 | [x],c,a=>
   refine⟨λq=>GX,λ_=>?_,λq=>GX,λq=>GX⟩;have d:=(a x).1 Ad;rcases h.touch.1 ⟨x,d⟩with q|q;exact q;let⟨p,p',i,o,r,j,u⟩:=h.over.1 q;grind
 |x::y::l,c,a=>
  refine⟨λ_=>?_,λq=>GX,λq=>GX,λq=>GX⟩;have d:=(a x).1 Ad;have g:=(a y).1 Ad
  have f:x≠y:=by
   grind [S9,fJ8]
  exact h.over.2 ⟨x,y,d.1,g.1,f,d.2,g.2⟩
theorem fF3(h:3<=r.length)(hi:i<r.length):aJ4 r i∈bF r:=(bC9 h).2 ⟨i,hi,rfl⟩
theorem fP4(hi:i+1<r.length):iU r i=r.getD (i+1) z0:=by unfold iU;rw[Nat.mod_eq_of_lt hi]
def fJ5(h:0<r.length):iU r (r.length-1)=r.getD 0 z0:=by unfold iU;rw[show r.length-1+1=r.length by omega,Nat.mod_self]
def fK4(h:dM r)(g:i<k)(b:k<r.length)(l:eX (aJ4 r i) p)(m:eX (aJ4 r k) p):
 (k=i+1/\p=iU r i)\/(i=0/\k=r.length-1/\p=r.getD 0 z0):=by
 have f:=h.1;have c:=h.2.2.1;have o:=fU3.1 h.2.2.2.2.1;have o1:=jO c (fF3 f (show i<r.length from Aa));have o2:=jO c (fF3 f b);have n:=(fR4.1 h).2.2.2.2.1 i k g b;have a:∀j,Sm4 (r.getD (j% r.length) z0):=λj=>vN c (aE1 (SC _ Aa));unfold fM5 at n;rw[fH0 f Aa,fH0 f b]at n;by_cases u:adj r.length i k
 ·rcases u with rfl|⟨rfl,rfl⟩
  ·left
   refine⟨rfl,?_⟩;have d:=fH4 (vN c (aE1 (show i<r.length from Aa))) (a (i+1)) (a (i+2)) (o i Aa);refine eO4 o1 o2 ?_ ⟨l,m⟩ ⟨cN1 o1,?_⟩
   ·show X (dif (iU r i) (r.getD i z0)) (dif (iU r (i+1)) (r.getD (i+1) z0))≠0
    unfold iU;rw[Nat.mod_eq_of_lt b]at d⊢;exact d
   ·have e:=(fP4 b).symm
    rw[<-e];exact rH o2
  ·right
   refine⟨rfl,rfl,?_⟩;have d:=fH4 (vN c (aE1 b)) (a (r.length-1+1)) (a (r.length-1+2)) (o (r.length-1) b);have s:(r.length-1+1)% r.length=0:=EC;have t:(r.length-1+2)% r.length=1:=Ci;rw[s,t]at d;refine eO4 o1 o2 ?_ ⟨l,m⟩ ⟨rH o1,?_⟩
   ·show X (dif (iU r 0) (r.getD 0 z0)) (dif (iU r (r.length-1)) (r.getD (r.length-1) z0))≠0
    rw[fP4 (show 0+1<r.length from Aa),fJ5 Aa];intro q;apply d;rw[eB7,q];rfl
   ·have e:(aJ4 r (r.length-1)).2=r.getD 0 z0:=fJ5 Aa
    rw[<-e];exact cN1 o2
 ·grind [eZ7,aG8,fF3]
def Vtx(r:Rg)(p:Vc)(j:Nat):Prop:=j<r.length/\r.getD j z0=p
def Edg(r:Rg)(p:Vc)(j:Nat):Prop:=j<r.length/\r.getD j z0≠p/\iU r j≠p/\eX (aJ4 r j) p
def fF1(h:dM r)(hi:i<r.length):r.getD i z0≠iU r i:=aG8 h (fF3 h.1 hi)
def fQ2(h:dM r)(a:Vtx r p j):eX (aJ4 r j) p:=by
 have:=rH (jO h.2.2.1 (fF3 h.1 a.1));rw[<-a.2];exact this
theorem gH3(h:dM r)(hi:Vtx r p i)(a:Vtx r p j)(b:i<j):False:=by
 rcases fK4 h b a.1 (fQ2 h hi) (fQ2 h a)with⟨e,q⟩|⟨d,c,q⟩;exact fF1 h hi.1 (hi.2.trans q);have:=fF1 h a.1;rw[c,fJ5 (by have:=h.1;omega),<-q,<-c]at this;exact this a.2
def gF4(h:dM r)(hi:Vtx r p i)(a:Vtx r p j):i=j:=by
 grind [UN,gH3]
def fU6(h:dM r)(b:Vtx r p j)(a:Edg r p m):False:=by
 rcases UN j m with q|q|q;rcases fK4 h q a.1 (fQ2 h b) a.2.2.2 with⟨e,k⟩|⟨c,d,k⟩;subst e;rw[fP4 a.1]at k;exact a.2.1 k.symm;have:=a.2.2.1;rw[d,fJ5 (by have:=h.1;omega)]at this;exact this k.symm;subst q;exact a.2.1 b.2;rcases fK4 h q b.1 a.2.2.2 (fQ2 h b)with⟨e,k⟩|⟨c,d,k⟩;exact a.2.2.1 k.symm;subst c;exact a.2.1 k.symm
theorem gH1(h:dM r)(hi:Edg r p i)(a:Edg r p m)(q:i<m):False:=by
 rcases fK4 h q a.1 hi.2.2.2 a.2.2.2 with⟨e,k⟩|⟨b,c,k⟩;exact hi.2.2.1 k.symm;subst b;exact hi.2.1 k.symm
def gF3(h:dM r)(hi:Edg r p i)(a:Edg r p j):i=j:=by
 grind [UN,gH1]
def fE8(i:Nat)(x:Sg):Sg:=if 0<i then(x.2,x.1)else x
def vSec(r:Rg)(p:Vc)(j:Nat):Sg:=(vsub (iU r j) p,vsub (mY r j) p)
def eSec(r:Rg)(m:Nat):Sg:=(vsub (iU r m) (r.getD m z0),vsub (r.getD m z0) (iU r m))
def Sec(i:Nat)(r:Rg)(p:Vc)(x:Sg):Prop:=(∃j,Vtx r p j/\x=fE8 i (vSec r p j))\/(∃m,Edg r p m/\DirS x (fE8 i (eSec r m))/\SmV x.1/\SmV x.2)
open Classical in
def secV(i:Nat)(r:Rg)(p:Vc)(k:Nat):Option Sg:=
 if iU r k=p then some (fE8 i (vsub (r.getD ((k+2)% r.length) z0) p,vsub (r.getD k z0) p))
 else if r.getD k z0≠p/\eX (r.getD k z0,iU r k) p then some (fE8 i (eSec r k))else none
def secR(i:Nat)(r:Rg)(p:Vc):Option Sg:=(List.range r.length).findSome? (secV i r p)
def secL(p:Vc):Nat->List Rg->Option Sg
 |_,[] =>none
 |i,r::R=>(secR i r p).or (secL p (i+1) R)
theorem fE0(c:Sm4 a)(d:Sm4 b):vsub a b=dif a b:=by
 unfold Sm4 at*;exact kN ⟨Aa,Aa⟩ ⟨Aa,Aa⟩
theorem fE3(c:Sm4 a)(d:Sm4 b):SmV (vsub a b):=by
 grind [fE0,Sm4,SmV,Sm,dif]
def fM9(h:a≠b):dif a b≠(0,0):=bZ7 (λe=>h e.symm)
def gA0(c:Sm4 a)(d:Sm4 b)(l:Sm4 p)(e:a≠b)(r:a≠p)(t:b≠p)(f:eX (a,b) p):Dir (vsub b p) (vsub b a)/\Dir (vsub a p) (vsub a b):=by
 let⟨N,k,j,m,n,g,i⟩:=cX7 (s:=(a,b)) (jP.2 ⟨c,d⟩) e f;rw[fE0 d l,fE0 d c,fE0 c l,fE0 c d];simp only at g i
 have u:k≠0:=by
  intro q;grind [Int.mul_eq_zero]
 have o:k≠N:=by
  grind [Int.eq_of_mul_eq_mul_left]
 refine⟨⟨N,N-k,j,Aa,?_,?_⟩,⟨N,k,j,Aa,?_,?_⟩⟩<;>(unfold dif;grind)
def fY8(h:i<r.length):mY r i∈r:=aE1 (SC _ Aa)
def fX3(h:eX (a,b) p):eX (b,a) p:=by
 have c:=h.1;have d:bI (b,a):=⟨c.2,c.1⟩;rw[gZ d];let⟨e,f⟩:=(gZ c).1 h;refine⟨?_,?_⟩;unfold Bb at*;simp only at*;omega;unfold X dif at*;grind
def fN6(a:k<r.length):∃m,m<r.length/\mY r k=r.getD m z0/\iU r m=r.getD k z0:=by
 by_cases h:k=0;subst h;refine⟨r.length-1,Aa,?_,fJ5 Aa⟩;unfold mY;simp_all;refine⟨k-1,Aa,?_,?_⟩;unfold mY;rw[show k+r.length-1=(k-1)+r.length from Aa,Nat.add_mod_right,Nat.mod_eq_of_lt Aa];grind [fP4]
def gA6(h:dM r)(c:Sm4 p)(b:k<r.length)(d:dJ i r p k=some x):Sec i r p x:=by
 have g:=h.2.2.1;have j:=vN g (aE1 b);have t:=vN g (bA6 b);have w:=vN g (fY8 b);unfold dJ at d;split at d;rename_i hv;cases d;refine .inl ⟨k,⟨b,hv⟩,?_⟩;unfold fE8 vSec arN arL;split<;>rfl;rename_i hv;split at d;rename_i a;cases d;right;by_cases f:0<i;have l:arN i r k=mY r k:=QU f;rw[l]at a⊢;let⟨m,o,v,e⟩:=fN6 b;rw[v]at a⊢;have u:=vN g (aE1 o);refine⟨m,⟨o,a.1,by rw[e];exact hv,by show eX (r.getD m z0,iU r m) p;rw[e];exact fX3 a.2⟩,?_,fE3 u c,fE3 j c⟩;have s:r.getD m z0≠r.getD k z0:=by rw[<-e];exact fF1 h o
 have n:=gA0 j u c (λq=>s q.symm) hv a.1 a.2;unfold fE8 eSec;rw[QU f,e];exact n;have l:arN i r k=iU r k:=Q9 f;rw[l]at a⊢;refine⟨k,⟨b,hv,a.1,a.2⟩,?_,fE3 t c,fE3 j c⟩;have n:=gA0 j t c (fF1 h b) hv a.1 a.2;unfold fE8 eSec;rw[Q9 f];exact n;cases d
def gH9(h:dM r)(e:Sm4 p)(b:k<r.length)(a:secV i r p k=some x):Sec i r p x:=by
 have d:=h.2.2.1;have f:=vN d (aE1 b);have g:=vN d (bA6 b);unfold secV at a;split at a;rename_i hv;refine .inl ⟨(k+1)% r.length,⟨SC _ Aa,hv⟩,?_⟩;simp_all [Nat.mod_add_mod,fN2,vSec,iU,mY];rename_i hv;split at a;rename_i c;cases a;refine .inr ⟨k,⟨b,c.1,hv,c.2⟩,⟨dir_refl _,dir_refl _⟩,?_,?_⟩;grind [fE3,fE8,eSec];grind [fE3,fE8,eSec];cases a
def gF0(h:dM r)(f:Sec i r p x):(∃j,Vtx r p j/\∀y,Sec i r p y->y=fE8 i (vSec r p j))\/(∃m,Edg r p m/\∀y,Sec i r p y->DirS y (fE8 i (eSec r m))):=by
 rcases f with⟨j,c,_⟩|⟨m,b,_⟩;left;refine⟨j,c,λy e=>?_⟩;rcases e with⟨g,a,q⟩|⟨m,b,_⟩;rw[gF4 h c a];exact q;exact(fU6 h c b).elim;right;refine⟨m,b,λy e=>?_⟩;rcases e with⟨g,a,_⟩|⟨k,d,q,_⟩;exact(fU6 h a b).elim;rw[gF3 h b d];exact q
def stdS(i:Nat)(r:Rg)(p:Vc)(z:Sg):Prop:=SecG z/\∀y,Sec i r p y->DirS y z/\SmV y.1/\SmV y.2
def fS8(h:SecG x):SecG (x.2,x.1):=⟨h.s2,h.s1,h.n2,h.n1,λq=>h.ne (by rw[eB7,dH3];exact⟨by have:=q.1;simp only at this;omega,q.2⟩)⟩
def fR0 i(h:SecG x):SecG (fE8 i x):=by
 unfold fE8;split;exact fS8 h;exact h
def gF5(h:dM r)(d:Sm4 p)(C:Sec i r p x):∃z,stdS i r p z:=by
 have n:=h.2.2.1;rcases gF0 h C with⟨j,b,t⟩|⟨m,f,t⟩;have a:=vN n (bA6 b.1);have o:=vN n (fY8 b.1)
 have k:SecG (fE8 i (vSec r p j)):=by
  refine fR0 i ⟨fE3 a d,fE3 o d,?_,?_,?_⟩;show vsub (iU r j) p≠(0,0);rw[fE0 a d,<-b.2];exact fM9 (λq=>fF1 h b.1 q.symm);show vsub (mY r j) p≠(0,0);let⟨m,f,w,A⟩:=fN6 b.1;rw[fE0 o d,<-b.2,w,<-A];exact fM9 (fF1 h f);show¬(X (vsub (iU r j) p) (vsub (mY r j) p)=0/\_);rw[fE0 a d,fE0 o d];rintro⟨q,_⟩;have v:=h.2.2.2.2.1 j b.1;rw[b.2,zH o d a,tC]at v;unfold X dif at*;grind
 exact⟨_,k,λy l=>by rw[t y l];exact⟨⟨dir_refl _,dir_refl _⟩,k.s1,k.s2⟩⟩;have g:=vN n (aE1 f.1);have a:=vN n (bA6 f.1);have c:=fF1 h f.1
 have k:SecG (fE8 i (eSec r m)):=by
  refine fR0 i ⟨fE3 a g,fE3 g a,?_,?_,?_⟩;show vsub _ _≠(0,0);rw[fE0 a g];exact fM9 (λq=>c q.symm);show vsub _ _≠(0,0);rw[fE0 g a];exact fM9 c;show¬(_/\0<=Dt (vsub _ _) (vsub _ _));rw[fE0 a g,fE0 g a];have u:=cY3 (fM9 (λq=>c q.symm):dif (iU r m) (r.getD m z0)≠(0,0));have e:Dt (dif (iU r m) (r.getD m z0)) (dif (r.getD m z0) (iU r m))= -Dt (dif (iU r m) (r.getD m z0)) (dif (iU r m) (r.getD m z0)):=by unfold Dt dif;grind
  omega
 refine⟨_,k,λy l=>⟨t y l,?_⟩⟩;rcases l with⟨D,s,_⟩|⟨E,B,_,q⟩;exact(fU6 h s f).elim;exact q
def fE5{f:Nat->Option Sg}:((List.range n).findSome? f=none↔∀k,k<n->f k=none)/\∀x,(List.range n).findSome? f=some x->∃k,k<n/\f k=some x:=by
 constructor;simp_all;intro x h;let⟨k,a,q⟩:=List.exists_of_findSome?_eq_some h;exact⟨k,Tf.1 a,q⟩
theorem fI4(h:dM r)(b:Sm4 p)(c:qY i r p=some x):Sec i r p x:=by
 let⟨k,a,q⟩:=fE5.2 x c;exact gA6 h b a q
theorem fY6(h:dM r)(b:Sm4 p)(c:secR i r p=some x):Sec i r p x:=by
 let⟨k,a,q⟩:=fE5.2 x c;exact gH9 h b a q
def gG0(h:dM r)(c:Sec i r p x):onR r p:=by
 rcases c with⟨j,a,_⟩|⟨m,b,_⟩;exact⟨aJ4 r j,fF3 h.1 a.1,fQ2 h a⟩;exact⟨aJ4 r m,fF3 h.1 b.1,b.2.2.2⟩
def gI2(h:dM r)(c:onR r p):secR i r p≠none:=by
 let⟨e,j,q⟩:=c;obtain⟨k,d,rfl⟩:=(bC9 h.1).1 j;intro b;have a:=fE5.1.1 b k d;unfold secV at a;split at a;cases a;rename_i t;split at a;cases a;rename_i g
 have u:r.getD k z0=p:=by
  by_cases f:r.getD k z0=p;exact f;exact absurd ⟨f,q⟩ g
 let⟨m,l,o,s⟩:=fN6 d;have n:=fE5.1.1 b m l;simp_all [QU,secV]
def gB1(h:dM r)(f:onR r p):qY i r p≠none:=by
 let⟨e,l,q⟩:=f;obtain⟨k,c,rfl⟩:=(bC9 h.1).1 l;intro b
 have key:∀k,k<r.length->r.getD k z0≠p:=λk c m=>by
  have a:=fE5.1.1 b k c;simp_all [QU,dJ]
 by_cases j:0<i;have g:(k+1)% r.length<r.length:=SC _ Aa;have a:=fE5.1.1 b _ g
 have d:arN i r ((k+1)% r.length)=r.getD k z0:=by
  simp_all [QU,fN2,arN,mY]
 unfold dJ at a;rw[Q9 (key _ g),d,QU ⟨key k c,fX3 q⟩]at a;cases a;have a:=fE5.1.1 b k c;have d:arN i r k=iU r k:=Q9 j;unfold dJ at a;rw[Q9 (key k c),d,QU ⟨key _ (SC _ Aa),q⟩]at a;cases a
def fL4(l:List Rg):Prop:=(∀r∈l,dM r)/\∀(i j:Nat) (a b:Rg),i<j->l[i]? =some a->l[j]? =some b->Apart a b
def fO6(e:bG s):fL4 (rings s):=by
 refine⟨e.2.1,λi j a b g c d=>?_⟩;unfold rings at c d;obtain⟨f,rfl⟩:∃f,j=f+1:=⟨j-1,Aa⟩;rw[SE]at d;cases i with
 |zero=>
  cases c;exact(bK4 e (QZ d)).1.symm
 |succ i=>
  exact(cS9 e Aa c d).1.symm
def gA4(h:fL4 (r::l)):fL4 l:=⟨λx hx=>h.1 x BI,λi j a b e c d=>h.2 (i+1) (j+1) a b Aa (by rw[SE];exact c) (by rw[SE];exact d)⟩
def fH7(c:Sm4 p):∀ l  i,fL4 l->
 ((∃r∈l,onR r p)->∃x y z,nR p i l=some x/\secL p i l=some y/\SecG z/\(DirS x z/\SmV x.1/\SmV x.2)/\(DirS y z/\SmV y.1/\SmV y.2))/\((¬∃r∈l,onR r p)->secL p i l=none)
 | [],i,_=>⟨(λ⟨r,b,_⟩=>by cases b),λ_=>rfl⟩
 |r::l,i,h=>by
  have b:=h.1 r Ad;let⟨k,m⟩:=fH7 c l (i+1) (gA4 h);by_cases a:onR r p;refine⟨λ_=>?_,λq=>absurd ⟨r,Ad,a⟩ q⟩;let⟨x,g⟩:=Option.ne_none_iff_exists'.1 (gB1 (i:=i) b a);let⟨y,s⟩:=Option.ne_none_iff_exists'.1 (gI2 (i:=i) b a);let⟨z,t,j⟩:=gF5 b c (fI4 b c g);grind [fI4,fY6,nR,secL]
  have n:qY i r p=none:=by
   cases d:qY i r p with
   |none=>rfl
   |some x=>exact absurd (gG0 b (fI4 b c d)) a
  have o:secR i r p=none:=by
   cases d:secR i r p with
   |none=>rfl
   |some x=>exact absurd (gG0 b (fY6 b c d)) a
  have e:nR p i (r::l)=nR p (i+1) l:=by rw[nR,n];rfl
  have f:secL p i (r::l)=secL p (i+1) l:=by rw[secL,o];rfl
  rw[e,f];grind
def fH8(c s:Sh)(p:Vc):Prop:=∀x y,secL p 0 (rings c)=some x->secL p 0 (rings s)=some y->¬dI3 (x.2,x.1) y
theorem fT3(v:bG c)(w:bG s)(k:Sm4 p):touchAt c s (λx y=>¬jH y (x.2,x.1)) p↔fH8 c s p:=by
 unfold touchAt fH8;rw[fD8 v k,fD8 w k];let⟨B,K⟩:=fH7 k (rings c) 0 (fO6 v);let⟨C,L⟩:=fH7 k (rings s) 0 (fO6 w);by_cases G:∃r∈rings c,onR r p;by_cases H:∃r∈rings s,onR r p;let⟨x,y,z,D,E,f,⟨u,q,t⟩,m,i,j⟩:=B G;let⟨x',A,z',n,o,a,⟨l,g,h⟩,e,b,d⟩:=C H;have I:jE c p=x:=by unfold jE;rw[D];rfl
 have J:jE s p=x':=by unfold jE;rw[n];rfl
 have M:=fS8 (secG_dir m ⟨i,j⟩ f);have F:=secG_dir e ⟨b,d⟩ a;have N:jH x' (x.2,x.1)↔jH z' (z.2,z.1):=fD7 ⟨t,q⟩ ⟨f.s2,f.s1⟩ ⟨g,h⟩ ⟨a.s1,a.s2⟩ ⟨u.2,u.1⟩ l;have O:jH A (y.2,y.1)↔jH z' (z.2,z.1):=fD7 ⟨j,i⟩ ⟨f.s2,f.s1⟩ ⟨b,d⟩ ⟨a.s1,a.s2⟩ ⟨m.2,m.1⟩ e;grind [fD6];simp_all;simp_all
theorem fV3{O:List Vc} h:O.getD k z0=O[k] :=DJ
theorem gE8(c:¬kF a b)(d:¬kF b a):a=b:=by
 by_cases h:a=b;exact h;exact absurd (fK0 c h) d
def fL2:∀ l  m,¬kF m (sQ m l)/\∀x∈l,¬kF x (sQ m l)
 | [],m=>⟨(λh=>fJ8 h h),(λx hx=>H8)⟩
 |y::l,m=>by
  let⟨a,b⟩:=fL2 l (open Classical in if kF y m then y else m);have e:sQ m (y::l)=sQ (open Classical in if kF y m then y else m) l:=rfl;rw[e];refine⟨?_,λx hx=>?_⟩;by_cases q:kF y m;rw[QU q]at a⊢;exact λh=>a (fD9 q h);rw[Q9 q]at a⊢;exact a;rcases Rl.1 hx with rfl|hx;by_cases q:kF x m;rw[QU q]at a⊢;exact a;rw[Q9 q]at a⊢;grind [fD9,fK0];exact b x hx
def fL5:∀ {l} {j k},l[j]? =some v->(∀i,i<j->l[i]? ≠some v)->sN v l k=some (k+j)
 | [],j,k,h,_=>HY
 |x::l,j,k,h,b=>by
  unfold sN;cases j with
  |zero=>
   rw[QU (UG h).symm];rfl
  |succ j=>
   have a:=b 0 Aa;rw[UD]at a;rw[Q9 (λe=>a Io),fL5 (j:=j) (by rw[SE]at h;exact h) (λi hi=>by have:=b (i+1) Aa;exact this)];congr 1;omega
def gB7(r:Rg)(k:Nat):Prop:=k<r.length/\(∀j,j<r.length->¬kF (r.getD j z0) (r.getD k z0))/\∀j,j<k->r.getD j z0≠r.getD k z0
def fJ7(h:gB7 r k):wO r=r.getD k z0/\wL r=r.drop k++r.take k:=by
 let⟨a,g,c⟩:=h;have hne:r≠ [] :=λe=>by rw[e]at a;simp at a
 have d:=eH8 hne;have b:∀x∈r,¬kF x (wO r):=Kv
 have e:wO r=r.getD k z0:=by
  let⟨i,hi,q⟩:=List.mem_iff_getElem.1 d;grind [gE8,aE1,fV3]
 refine⟨e,?_⟩;unfold wL
 have f:sN (wO r) r 0=some k:=by
  rw[e]
  have:=fL5 (v:=r.getD k z0) (l:=r) (j:=k) (k:=0) (getD_some a) (λi hi=>by
   rw[getD_some Aa];exact λq=>c i hi (UG q))
  rw[this];congr 1;omega
 rw[f];rfl
def fY4:∀ {r:Rg},r≠ []->∃k,gB7 r k:=by
 intro r hne;have n:=eH8 hne;have b:∀x∈r,¬kF x (wO r):=Kv;let⟨j,f,m,g⟩:=aT6 (k:=0) n
 have key:∀{l}{k j}{v},sN v l k=some j->k<=j/\l[j-k]? =some v/\∀i,i<j-k->l[i]? ≠some v:=by
  intro l;induction l with
  |nil=>intro k j v h;cases h
  |cons x l o=>
   intro k j v h;unfold sN at h;split at h;simp_all;rename_i e;let⟨q1,q2,c⟩:=o h;grind
 let⟨_,q2,c⟩:=key f;rw[Nat.sub_zero]at q2 c;let⟨a,d⟩:=QW.1 q2;refine⟨j,a,λi hi=>?_,λi hi=>?_⟩;rw[fV3 a,d];exact b _ (aE1 hi);grind
def fU0{r:Rg}(h:r≠ []):(wL r).getD 0 z0∈r:=by
 let⟨k,a⟩:=fY4 h;rw[(fJ7 a).2,Sz,List.getElem?_append_left (by rw[Sr];have:=a.1;omega),SA,TW,QX a.1];exact TL _
def keyR(r:Rg):Vc:=r.getD 0 z0
def fA(h:Rg)(l:List Rg):Nat:=(l.takeWhile λy=>decB (kF (keyR y) (keyR h))).length
def insH(h:Rg)(l:List Rg):List Rg:=l.take (fA h l)++h::l.drop (fA h l)
def srtH(l:List Rg):List Rg:=l.foldl (λo h=>insH h o) []
def fP2(s:Sh):Sh:=⟨wL s.outer,srtH (s.holes.map wL)⟩
theorem fK1 D x:srtH (D++[x])=insH x (srtH D):=by unfold srtH;rw[TR];rfl
def fM8{a:Type} p:∀l:List a,l.take (l.takeWhile p).length=l.takeWhile p/\(∀y,(l.drop (l.takeWhile p).length)[0]? =some y->p y=false)
 | [] =>⟨rfl,λy h=>Ah⟩
 |x::l=>by
  let⟨b,c⟩:=fM8 p l;rw[Ut];grind
theorem fT7:∀ {B R},(∀y∈B,cR x y<0)->insR cR x (B++R)=B++insR cR x R
 | [],R,_=>rfl
 |y::B,R,h=>by
  show(if cR x y<0 then y::insR cR x (B++R)else x::y::(B++R))=_;simp_all [QU,fT7]
theorem gD0:∀ {R},(∀y∈R,¬cR x y<0)->insR cR x R=x::R
 | [],_=>rfl
 |y::R,h=>by
  show(if cR x y<0 then y::insR cR x R else x::y::R)=_;rw[Q9 (h y Ad)]
def gH0(k:A.Pairwise λa b=>kF (keyR a) (keyR b))(j:∀a∈A,keyR a≠keyR x):
 insH x A=(insR cR x A.reverse).reverse/\(insH x A).Pairwise (λa b=>kF (keyR a) (keyR b)):=by
 let⟨n,i⟩:=fM8 (λy=>decB (kF (keyR y) (keyR x))) A;have e:A=A.take (fA x A)++A.drop (fA x A):=(SG _ _).symm
 have d:∀y∈A.take (fA x A),kF (keyR y) (keyR x):=λy hy=>by
  grind [dH,fU7,fA]
 have g:=Si.1 (e▸k)
 have c:∀y∈A.drop (fA x A),kF (keyR x) (keyR y):=by
  intro y hy;have l:=RQ hy;cases f:A.drop (fA x A)with
  |nil=>rw[f]at hy;cases hy
  |cons z Z=>
   have m:=i z (by show(A.drop (fA x A))[0]? =_;rw[f];rfl);grind [RQ,fK0,dW,fD9,S9]
 constructor
 ·unfold insH
  rw[e];rw[UZ,fT7,gD0]
  ·simp
  ·intro y hy
   have:=d y Dj;exact λq=>fJ8 this q
  ·intro y hy
   exact c y Dj
 ·unfold insH
  refine Si.2 ⟨g.1,S9.2 ⟨c,g.2.1⟩,λa o b r=>?_⟩;grind
theorem fW9:z∈insH x A↔z=x\/z∈A:=by
 unfold insH;have e:A=A.take (fA x A)++A.drop (fA x A):=(SG _ _).symm;constructor;intro q;rcases Rh.1 q with q|q;exact .inr (RP q);rcases Rl.1 q with q|q;exact .inl q;exact .inr (RQ q);rintro(q|q);simp[q];rw[e]at q;rcases Rh.1 q with q|q;simp[q];simp[q]
def fW6:∀ R D,(D++R).Pairwise (λa b=>keyR a≠keyR b)->(srtH D=(isR cR D).reverse/\(srtH D).Pairwise (λa b=>kF (keyR a) (keyR b))/\∀z,z∈srtH D↔z∈D)->srtH (D++R)=(isR cR (D++R)).reverse
 | [],D,_,h=>by rw[Rq];exact h.1
 |x::R,D,c,⟨f,g,d⟩=>by
  have j:=λa i=>by
   have:=(Si.1 c).2.2 a ((d a).1 i) x Ad;exact this
  let⟨k,l⟩:=gH0 g j;have e:D++x::R=(D++[x])++R:=Ad;rw[e]at c⊢;refine fW6 R (D++[x]) c ⟨?_,by rw[fK1];exact l,λz=>?_⟩;rw[fK1,eB2,k,f,List.reverse_reverse];rw[fK1,fW9,d];simp[or_comm]
def fV8(d:bG s):fP2 s=qO s:=by
 have o:dM s.outer:=d.2.1 _ AU;have m:∀r∈s.holes,dM r:=λr hr=>d.2.1 r BU;rw[aN9 d];unfold fP2 wW qA;have l:=Ti (λr hr=>bJ7 (m r hr));rw[bJ7 o,l];congr 1
 have g:(s.holes.map wL).Pairwise (λa b=>keyR a≠keyR b):=by
  rw[List.pairwise_map,List.pairwise_iff_getElem];intro i j hi n f q;have c:=(cS9 d f (QX hi) (QX n)).1;have u:s.holes[i]≠ [] :=λe=>by have:=c.ob.1;rw[e]at this;simp at this
  have v:s.holes[j]≠ [] :=λe=>by have:=c.oa.1;rw[e]at this;simp at this
  have k:=fU0 u;have t:=fU0 v;unfold keyR at q;rw[q]at k;exact c.off (vert_onR c.oa t) (vert_onR c.ob k)
 have:=fW6 (s.holes.map wL) [] (by simpa using g) ⟨rfl,List.Pairwise.nil,λz=>RU⟩;simpa using this
def gE1:rings a=rings b↔a=b:=by
 constructor;intro h;unfold rings at h;cases a;cases b<;>simp_all
 rintro rfl;rfl
theorem fD a b:Sp 183 [vcV a,vcV b] (vcV (vsub a b)):=by
 refine zsp func183 ?_;exact NG
def fR2 a b:Sp 298 [vcV a,vcV b] (I (vdot a b)):=by
 refine zsp func298 ?_;exact NG
def fF0 a b:Sp 128 [vcV a,vcV b] (I (bZ a b)):=by
 refine zsp func128 ?_;exact NG
def fO5 n:Sp 224 [I n] (I (cmpI n 0)):=by
 refine zsp func224 ?_;unfold cmpI;repeat' (first|refine zS ?_|refine zm (λx a=>?_)|refine zT ?_ ?_<;>intro _|fail)
 all_goals conv=>whnf
 all_goals refine aG ?_
 rw[Q9 Aa,QU Aa];rw[QU Aa];rw[Q9 Aa,Q9 Aa]
def fG4 a b c:Sp 178 [vcV a,vcV b,vcV c] (I (kR a b c)):=by
 refine zsp func178 ?_;repeat' ((conv=>whnf);first|refine zc (fD b a) ?_|refine zc (fD c a) ?_|refine zc (fF0 (vsub b a) (vsub c a)) ?_|refine zc (fO5 (bZ (vsub b a) (vsub c a))) ?_|refine zS ?_|refine zm (λx d=>?_)|refine zT ?_ ?_<;>intro _|fail)
 all_goals exact zE
def fJ0 a b:Sp 264 [vcV a,vcV b] (DB (kF a b)):=by
 refine zsp func264 ?_;have c:=aG2 (x:=a) (m:=b);generalize kF a b=P at*;repeat' (first|refine zS ?_|refine zm (λx d=>?_)|refine zT ?_ ?_<;>intro _|fail)
 all_goals conv=>whnf
 all_goals refine aA ?_
 all_goals first
  |exact fE (c.2 Aa)
  |exact aC (λh=>by have:=c.1 h;omega)
  |(refine aS1 ?_;rw[c];omega)
def fP a m:Sp 223 [vcV a,I m] (DB (within a m)):=by
 refine zsp func223 ?_;repeat' (first|refine zg ?_|refine zi ?_|refine zw ?_|refine zy ?_|refine zo ?_|refine zn ?_|refine zm (λx b=>?_)|refine zv ?_|refine zz (λ_=>?_) λ_=>?_|refine zb (λ_=>?_) λ_=>?_|refine zr ?_|refine zq ?_)
 all_goals conv=>whnf
 all_goals refine aA ?_
 all_goals first
  |(refine le_dec ?_;unfold within;omega)
  |exact aC (by unfold within;omega)
def fF8 s:Sp 225 [sgV s] (DB (bI s)):=by
 refine zsp func225 ?_;repeat' (first|refine zc (fP s.1 4000) ?_|refine zc (fP s.2 4000) ?_|refine zS ?_|refine zm (λx a=>?_)|refine zT ?_ ?_<;>intro _|fail)
 all_goals conv=>whnf
 all_goals refine aA ?_
 all_goals first
  |(unfold bI;simp[*];done)
  |exact aC (by unfold bI;simp[*])
def fN7 s p:Sp 267 [sgV s,vcV p] (DB (eX s p)):=by
 refine zsp func267 ?_;have a:eX s p↔bI s/\Bb s p/\kR s.1 s.2 p=0:=by unfold eX;rw[eY3]
 unfold Bb at a;have d:=fF8 s;have e:=fG4 s.1 s.2 p;generalize eX s p=P at*;generalize bI s=g at*;generalize kR s.1 s.2 p=t at*;repeat' ((conv=>whnf);first|refine zc d ?_|refine zc e ?_|refine zS ?_|refine zm (λx f=>?_)|refine zT ?_ ?_<;>intro _|fail)
 all_goals conv=>whnf
 all_goals refine aA ?_
 all_goals (try simp only[lH,mG]at*)
 all_goals first
  |(refine sK ?_;rw[a];exact⟨λh=>⟨‹_›,⟨Aa,Aa,Aa,Aa⟩,h⟩,λh=>h.2.2⟩)
  |(refine aC (λh=>?_);have b:=a.1 h;first|exact absurd b.1 ‹_› |(have c:=b.2.1;omega))
def fG5 s p(f:bI s)(d:Sm4 p):Sp 227 [sgV s,vcV p] (I (kR s.1 s.2 p)):=by
 refine zsp func227 ?_;have a:=fF8 s;have b:=fG4 s.1 s.2 p;have c:=fP p 4000;have e:=pY.2 d;repeat' ((conv=>whnf);first|(exfalso;contradiction)|refine zc a ?_|refine zc b ?_|refine zc c ?_|refine zS ?_|refine zm (λx g=>?_)|refine zT ?_ ?_<;>intro _|fail)
 all_goals exact zE
def nilA(x:V):V:=match x with
 | .lit u=>(match u with| .slice none 0 0=> .sl [] |u=> .lit u)
 |x=>x
def gJ4(σ:St):St:=⟨λs=>nilA (σ.env s),σ.bx,σ.ar⟩
def gI1(h:Rv w G v x):Rv w G v (nilA x):=by
 unfold nilA;exact Qm
def gJ3(h:x.ok p q):(nilA x).ok p q:=by
 unfold nilA;grind [V.ok,V.okL]
def gI3 σ:Le T σ (gJ4 σ):=by
 unfold Le;intro Φ a w G inv;exact⟨G,{inv with env:=λs=>gI1 (inv.env s),wfE:=λs=>gJ3 (inv.wfE s)}⟩
theorem fV9{O:List Vc} h:O.getD k z0=O[k] :=DJ
def fQ6(a:k<=ahead x l)(h:l.length<=k\/¬kF (l.getD k z0) x):k=ahead x l:=by
 grind [fW5,Sj,fV9,fX7]
def fZ6(f:k<=ahead x l)(b:k<l.length)(h:kF (l.getD k z0) x):k<ahead x l:=by
 rcases Sj k (ahead x l)with a|d;exact a;have e:k=ahead x l:=by omega
 have c:l[ahead x l]? =some (l.getD k z0):=by rw[<-e,fV9 b,QX b]
 exact absurd h (fQ4 c)
def gE6(a:k=ahead x O)(b:k<O.length)(h:O.getD k z0=x):insV x O=O:=by
 unfold insV;grind
def fY7(a:k=ahead x O)(h:k<O.length->O.getD k z0≠x):insV x O=O.take k++x::O.drop k:=by
 unfold insV;grind
def fQ7(l:List Vc) n:∀y∈(l.map vcV).take n,y.cells.length=2:=λy a=>aM5 l y (RP a)
def fW4(l:List Vc) n m:∀y∈((l.map vcV).take m).drop n,y.cells.length=2:=λy a=>aM5 l y (RP (RQ a))
theorem fI6{a:Type}(f:a->V)(O:List a) x k:(O.take k++x::O.drop k).map f=List.take (k:Int).toNat (O.map f)++[f x] ++List.drop (k:Int).toNat (List.take ((O.map f).length:Int).toNat (O.map f)):=by
 grind [SK,TM,List.map_take,List.map_drop,Tn]
def fS1 l(o:l.length<=1000):Sp 270 [.sl (l.map vcV)] (.sl ((srtV l).map vcV)):=by
 refine zsp func270 ?_;have m:(l.map vcV).length=l.length:=Ad;repeat' ((conv=>whnf);first|refine zS ?_|fail)
 refine aU (A:=List Vc) (B:=List Vc) (λD R=>mkSt [(0, .sl (l.map vcV)),(3, .sl ((srtV D).map vcV)),(4,I D.length)] [] []) (λD R=>l=D++R) (λD R=>R.length) [] l ?_ rfl (λD R hp=>?_);refine Le.trans (gI3 _) ?_;exact zj;have n:=gF2 D;have f:=gD1 D;generalize g:srtV D=O at*;have i:(O.map vcV).length=O.length:=Ad;cases R with
 |nil=>
  have d:l.length=D.length:=CJ;have e:l=D:=CJ;repeat' ((conv=>whnf);first|omega|refine zS ?_|refine zT ?_ ?_<;>intro _|fail)
  rw[e,g];all_goals exact zE
 |cons x R=>
  have d:=aO hp;repeat' ((conv=>whnf);first|omega|refine zS ?_|refine zT ?_ ?_<;>intro _|fail)
  refine lD (A:=Nat) (λk=>mkSt [(0, .sl (l.map vcV)),(3, .sl (O.map vcV)),(4,I D.length),(5,I k)] [] []) (λk=>k<=ahead x O) (λk=>ahead x O-k) 0 ?_ Aa (λk c=>?_);exact zj;have j:=fW5 x O;have b:=f x;repeat' ((conv=>whnf);first|omega|refine aB (l:=l) Aa ?_|refine aB (l:=O) Aa ?_|refine aF (l:=l) (A:=D) (x:=x) (B:=R) hp Aa ?_|refine aU3 (r:=O) (k:=k) Aa Aa ?_|refine zc (fJ0 (O.getD k z0) x) ?_|refine aT1 ?_|refine aB4 (λhv=>?_) (λhv=>?_)|refine cC0 [(0,999),(4,999),(49,999),(50,999),(51,999)] Af Ac ?_|refine iH rfl (.inl rfl) rfl (QV rfl) (fQ7 O _) (by show 0+(List.take _ (O.map vcV)).length<=1000000000;rw[Rk];omega) ?_|refine iH rfl (.inl rfl) rfl (QV rfl) (dA rfl) (by show(List.take _ (O.map vcV)).length+1<=1000000000;rw[Rk];omega) ?_|refine iH rfl (.inl rfl) rfl (QV rfl) (fW4 O _ _) (by show(List.take _ (O.map vcV)++[_]).length+(List.drop _ (List.take _ (O.map vcV))).length<=1000000000;rw[QY,Rk,Rj,Sr,Rk];omega) ?_|refine fU ⟨Aa,Aa,Aa, .inr (aM5 O)⟩ ?_|refine zS ?_|refine zT ?_ ?_<;>intro _|fail)
  all_goals conv=>whnf
  refine⟨k+1,?_,?_,?_⟩;exact zj;have:=fZ6 (l:=O) (x:=x) c Aa Ag;omega;have:=fZ6 (l:=O) (x:=x) c Aa Ag;omega;have a:=fQ6 c (.inr Ag);refine⟨(D++[x],R),?_,Ae,Ad⟩;show Le T _ (mkSt [(0, .sl (l.map vcV)),(3, .sl ((srtV (D++[x])).map vcV)),(4,I ((D++[x]).length))] [] []);rw[b,gE6 a Aa hv];exact Nh;have a:=fQ6 c (.inr Ag);refine⟨(D++[x],R),?_,Ae,Ad⟩;show Le T _ (mkSt [(0, .sl (l.map vcV)),(3, .sl ((srtV (D++[x])).map vcV)),(4,I ((D++[x]).length))] [] []);rw[b,fY7 a (λ_=>hv),fI6];simp only[QY,Rj];exact OE;have a:=fQ6 c (.inl Aa);refine⟨(D++[x],R),?_,Ae,Ad⟩;show Le T _ (mkSt [(0, .sl (l.map vcV)),(3, .sl ((srtV (D++[x])).map vcV)),(4,I ((D++[x]).length))] [] []);rw[b,fY7 a (λh=>Aa),fI6];simp only[QY,Rj];exact OE
def fM4(E:List Vc)(s t:Sg)(n:Nat)(X:List Vc):St:=match X with
 | [] =>mkSt [(2, .box 2 0),(3, .box 3 0),(5, .arr 16 0),(6,nilV),(7,I n)] [(2,(sgV s).cells),(3,(sgV t).cells)] [(16,⟨0, .own,70,E.map vcV⟩)]
 |x::X=>mkSt [(2, .box 2 0),(3, .box 3 0),(5, .arr 16 0),(6, .arr 41 X.length),(7,I n)] [(2,(sgV s).cells),(3,(sgV t).cells)] [(16,⟨0, .own,70,E.map vcV⟩),(41,⟨X.length, .own,70,(x::X).map vcV⟩)]
def gH8(s t:Sg)(D:List Vc):(comL s t D).length<=D.length:=by
 unfold comL;exact U0 _ _
def fS5 s t:Sp 226 [sgV s,sgV t] (.sl ((comS s t).map vcV)):=by
 refine zsp func226 ?_;have b:comS s t=srtV (comL s t [s.1,s.2,t.1,t.2]):=rfl;have n: [s.1,s.2,t.1,t.2].length=4:=rfl;repeat' ((conv=>whnf);first|refine zS ?_|fail)
 refine aU (A:=List Vc) (B:=List Vc) (λD R=>fM4 [s.1,s.2,t.1,t.2] s t D.length (comL s t D)) (λD R=> [s.1,s.2,t.1,t.2] =D++R) (λD R=>R.length) [] [s.1,s.2,t.1,t.2] ?_ rfl (λD R hp=>?_);show Le T _ (fM4 [s.1,s.2,t.1,t.2] s t 0 []);exact zj;generalize [s.1,s.2,t.1,t.2] =E at*;have k:(E.map vcV).length=E.length:=Ad;have m:=gH8 s t D;have g:=gD6 s t D;cases R with
 |nil=>
  have d:E.length=D.length:=by rw[show E=D++[]from hp];simp
  have e:E=D:=by rw[show E=D++[]from hp];simp
  rw[b,e];have hso:=fS1 (comL s t D) Aa;generalize comL s t D=X at*;cases X with
  |nil=>exact KL
  |cons x X=>exact KL
 |cons y R=>
  have d:=aO hp;have i:=fN7 s y;have j:=fN7 t y;have hcy:=g y;have hC:Com s t y↔eX s y/\eX t y:=RU;generalize Com s t y=c at*;generalize eX s y=q at*;generalize eX t y=r at*;have a:∀f,comL s t (D++[y])=f->fM4 E s t ((D++[y]).length) (comL s t (D++[y]))=fM4 E s t (D.length+1) f:=λf h=>by rw[h,QY];rfl
  generalize comL s t D=X at*;cases X with
  |nil=>
   repeat' ((conv=>whnf);first|omega|refine dS rfl rfl FI ?_|refine aF (l:=E) (A:=D) (x:=y) (B:=R) hp Aa ?_|refine zc i ?_|refine zc j ?_|refine gX (QV rfl) (dA rfl) (QV rfl) ?_|refine zS ?_|refine zT ?_ ?_<;>intro _|fail)
   all_goals conv=>whnf
   refine⟨(D++[y],R),?_,Ae,Ad⟩;have e:=a [y] Ec;show Le T _ (fM4 E s t ((D++[y]).length) (comL s t (D++[y])));rw[e];exact Nb
   all_goals
    refine⟨(D++[y],R),?_,Ae,Ad⟩;have e:=a [] EW;exact Qa
  |cons x X=>
   have o:(x::X).length=X.length+1:=rfl;repeat' ((conv=>whnf);first|omega|refine dS rfl rfl FI ?_|refine aF (l:=E) (A:=D) (x:=y) (B:=R) hp Aa ?_|refine zc i ?_|refine zc j ?_|refine iH rfl (.inl rfl) rfl (QV rfl) (dA rfl) (show((x::X).map vcV).length+1<=1000000000 from D9) ?_|refine zS ?_|refine zT ?_ ?_<;>intro _|fail)
   all_goals conv=>whnf
   refine⟨(D++[y],R),?_,Ae,Ad⟩;have e:=a (x::(X++[y])) Ec;show Le T _ (fM4 E s t ((D++[y]).length) (comL s t (D++[y])));rw[e];unfold fM4;simp[QY,Rj,Rt,RH,SY];exact Nb
   all_goals
    refine⟨(D++[y],R),?_,Ae,Ad⟩;have e:=a (x::X) EW;exact Qa
theorem gB9:W (cmpI m 0*cmpI n 0)=cmpI m 0*cmpI n 0:=by
 rcases fM0 m 0 with h|h|h<;>rcases fM0 n 0 with k|k|k<;>rw[h,k] <;>decide
def fI7 s t(e:bI s)(f:bI t):Sp 180 [sgV s,sgV t] (I (dG s t)):=by
 refine zsp func180 ?_;let⟨q,r,u,v⟩:=gC7 e f;let⟨a,b⟩:=jP.1 e;let⟨c,d⟩:=jP.1 f
 have g:zT9 s t↔W (kR s.1 s.2 t.1*kR s.1 s.2 t.2)<0/\W (kR t.1 t.2 s.1*kR t.1 t.2 s.2)<0:=by
  unfold zT9 kR;rw[gB9,gB9]
 have i:=fF8 s;have j:=fF8 t;have k:=fS5 s t;have l:=fG5 s t.1 e c;have m:=fG5 s t.2 e d;have n:=fG5 t s.1 f a;have o:=fG5 t s.2 f b;have A:((comS s t).map vcV).length=(comS s t).length:=Ad;generalize dG s t=M at*;generalize zT9 s t=C at*;generalize comS s t=L at*;generalize kR s.1 s.2 t.1=w at*;generalize kR s.1 s.2 t.2=x at*;generalize kR t.1 t.2 s.1=y at*;generalize kR t.1 t.2 s.2=z at*;repeat' ((conv=>whnf);first|(exfalso;contradiction)|refine zc i ?_|refine zc j ?_|refine zc k ?_|refine zc l ?_|refine zc m ?_|refine zc n ?_|refine zc o ?_|refine zg ?_|refine zi ?_|refine zw ?_|refine zn ?_|refine zz (λ_=>?_) λ_=>?_|refine zr ?_)
 all_goals conv=>whnf
 all_goals first
  |exact aG (q Aa).symm
  |exact aG (r Aa).symm
  |exact aG (u Aa (g.2 ⟨Ag,Ag⟩)).symm
  |exact aG (v Aa (λh=>by have:=g.1 h;omega)).symm
def fG8 r(j:r.length<=1000000):Sp 86 [rgV r] (I (zY r)):=by
 refine zsp func86 ?_;have c:(r.map vcV).length=r.length:=Ad;repeat' ((conv=>whnf);first|refine zS ?_|fail)
 refine lD (A:=Nat) (λk=>mkSt [(0,rgV r),(3,I (cI8 r k)),(4,I k)] [] []) (λk=>k<=r.length) (λk=>r.length-k) 0 ?_ Aa (λk i=>?_);exact zj;have f:=bC2 r k;have g:=fF0 (r.getD k z0) (iU r k);by_cases b:k<r.length
 ·have d:(k+1)% r.length<r.length:=SC _ Aa
  repeat' ((conv=>whnf);first|omega|refine uM Aa ?_|refine aB (l:=r) BR ?_|refine sW (k:=(k+1)% r.length) (kS Aa) d ?_|refine aU3 (k:=k) Aa b ?_|refine zS ?_|refine zT ?_ ?_<;>intro _|fail)
  all_goals conv=>whnf
  refine⟨k+1,?_,Aa,Aa⟩;simp[f];exact zj
 have e:k=r.length:=by omega
 subst e;exact zF
def fS0 r(g:r.length<=1000000):Sp 177 [rgV r] (DB (bR7 r)):=by
 refine zsp func177 ?_;have d:(r.map vcV).length=r.length:=Ad;have c:bR7 r↔∀v∈r,within v 2000:=RU;generalize bR7 r=P at*;repeat' (first|refine zS ?_|fail)
 refine aU (A:=List Vc) (B:=List Vc) (λD R=>mkSt [(0,rgV r),(3,I D.length)] [] []) (λD R=>r=D++R/\∀v∈D,within v 2000) (λD R=>R.length) [] r ?_ ⟨rfl,Ad⟩ (λD R hp=>?_);exact zj;let⟨hp,b⟩:=hp;cases R with
 |nil=>
  have a:r.length=D.length:=Ae;repeat' (first|omega|refine zS ?_|refine zT ?_ ?_<;>intro _|fail)
  all_goals conv=>whnf
  refine aA (fE (c.2 λv hv=>?_));rw[hp,Rq]at hv;exact b v hv
 |cons x R=>
  have a:=aO hp;have e:x∈r:=Ae;have f:=fP x 2000;repeat' (first|omega|refine zS ?_|refine zT ?_ ?_<;>intro _|fail)
  all_goals conv=>whnf
  all_goals first
   |exact aA (aC (λh=>absurd (c.1 h x e) Ag))
   |skip
  refine⟨(D++[x],R),?_,⟨Ae,λv hv=>?_⟩,Ad⟩;exact IW;rcases Rh.1 hv with hv|hv;exact b v hv;rw[Ri.1 hv];assumption
def gJ1(r:Rg)(k:Nat):St:=match k with
 |0=>mkSt [(0,rgV r),(3,nilV),(4,I 0)] [] []
 |k+1=>mkSt [(0,rgV r),(3, .arr 29 k),(4,I ((k:Int)+1))] [] [(29,⟨k, .own,233,(aH8 r (k+1)).map sgV⟩)]
def fE7 r(o:r.length<=1000000):Sp 179 [rgV r] (.own 233 ((bF r).map sgV)):=by
 refine zsp func179 ?_;have j:(r.map vcV).length=r.length:=Ad;have h1:=cK3 (r:=r);have g:=bA9 (r:=r);by_cases hr:r.length<2;exact JS;rw[g hr];repeat' ((conv=>whnf);first|omega|refine zS ?_|refine zT ?_ ?_<;>intro _|fail)
 refine lD (A:=Nat) (gJ1 r) (λk=>k<=r.length) (λk=>r.length-k) 0 ?_ Aa (λk n=>?_);exact zj;have m:=cS0 r k;have f:=bV5 r k;match k with
 |0=>
  have d:(0+1)% r.length<r.length:=SC _ Aa;repeat' ((conv=>whnf);first|omega|refine uM Aa ?_|refine aB (l:=r) (by rw[kS (a:=0+1) (by omega)];omega) ?_|refine sW (k:=(0+1)% r.length) (kS Aa) d ?_|refine aU3 (k:=0) Aa Aa ?_|refine fU ⟨QV Ac,QV Ac,dA rfl⟩ ?_|refine zS ?_|refine zT ?_ ?_<;>intro _|fail)
  all_goals conv=>whnf
  refine⟨1,?_,Aa,Aa⟩;exact zj
 |k+1=>
  have c:=bV5 r (k+1);have i:(List.map sgV (aH8 r (k+1))).length+1<=1000000000:=Aa;by_cases b:k+1<r.length
  ·have d:(k+1+1)% r.length<r.length:=SC _ Aa
   repeat' ((conv=>whnf);first|omega|refine uM Aa ?_|refine aB (l:=r) (by rw[kS (a:=k+1+1) (by omega)];omega) ?_|refine sW (k:=(k+1+1)% r.length) (kS Aa) d ?_|refine aU3 (k:=k+1) Aa b ?_|refine iH rfl (.inl rfl) rfl (QV rfl) (dA rfl) i ?_|refine zS ?_|refine zT ?_ ?_<;>intro _|fail)
   all_goals conv=>whnf
   refine⟨k+2,?_,Aa,Aa⟩;show Le T _ (mkSt [(0,rgV r),(3, .arr 29 (k+1)),(4,I (((k+1:Nat):Int)+1))] [] [(29,⟨k+1, .own,233,(aH8 r (k+1+1)).map sgV⟩)]);rw[<-m];exact zj
  exact JL
def gC1{a n:Nat}(h:z=(a:Int))(b:0<n):0<=z.tmod (n:Int)/\z.tmod (n:Int)< (n:Int):=by
 rw[dX5 h];have:=SC a b;omega
def fE9 r(s:r.length<=1000000):Sp 125 [rgV r] (DB (dM r)):=by
 refine zsp func125 ?_;have J:(r.map vcV).length=r.length:=Ad;have g:=fR4 (r:=r);have K:=fS0 r s;have L:=fG8 r s;have M:=fE7 r s;generalize dM r=P at*;repeat' ((conv=>whnf);first|refine zS ?_|refine zT ?_ ?_<;>intro _|fail)
 all_goals conv=>whnf
 all_goals first
  |exact aA (aC (λh=>by have:=g.1 h;omega))
  |exact aA (aC (λh=>absurd (g.1 h).2.2.1 Ag))
  |skip
 have h3:3<=r.length:=Aa;have j:r.length<=40:=Aa;have y:bR7 r:=Ag;refine lD (A:=Nat) (λk=>mkSt [(0,rgV r),(3,I r.length),(4,I k)] [] []) (λk=>k<=r.length/\∀i,i<k->fT6 r i≠0) (λk=>r.length-k) 0 ?_ ⟨Aa,λi hi=>Aa⟩ (λk f=>?_);exact zj;obtain⟨f,ht⟩:=f;have B:=fG4 (r.getD k z0) (r.getD ((k+1)% r.length) z0) (r.getD ((k+2)% r.length) z0);by_cases b:k<r.length
 ·have t:(k+1)% r.length<r.length:=SC _ Aa
  have u:(k+2)% r.length<r.length:=SC _ Aa;have S:=gC1 (z:=(k:Int)+1) (a:=k+1) (n:=r.length) Aa Aa;have T:=gC1 (z:=(k:Int)+2) (a:=k+2) (n:=r.length) Aa Aa;repeat' ((conv=>whnf);first|omega|refine uM Aa ?_|refine sW (k:=(k+1)% r.length) (dX5 Aa) t ?_|refine sW (k:=(k+2)% r.length) (dX5 Aa) u ?_|refine aU3 (k:=k) Aa b ?_|refine zS ?_|refine zT ?_ ?_<;>intro _|fail)
  all_goals conv=>whnf
  exact aA (aC (λh=>(g.1 h).2.2.2.1 k b Ag));exact KU
 have D:k=r.length:=Aa;subst D;clear B;have l:=dT0 (r:=r) Aa;have w:∀i k,fM5 r i k↔(adj r.length i k->dG ((bF r).getD i (z0,z0)) ((bF r).getD k (z0,z0))=1)/\(¬adj r.length i k->dG ((bF r).getD i (z0,z0)) ((bF r).getD k (z0,z0))=0):=λi k=>RU;have v:∀e∈bF r,bI e:=λe F=>jO y F;generalize O:bF r=E at*;have G:(E.map sgV).length=r.length:=by rw[Rw];exact l
 have d:∀i,i<r.length->bI (E.getD i (z0,z0)):=λi hi=>v _ (by rw[Sz,QX (by omega)];exact TL _);repeat' ((conv=>whnf);first|omega|refine zS ?_|refine zT ?_ ?_<;>intro _|fail)
 refine lD (A:=Nat) (λi=>mkSt [(0,rgV r),(3,I r.length),(5, .arr 49 0),(6,I i)] [] [(49,⟨0, .own,233,E.map sgV⟩)]) (λi=>i<=r.length/\∀i' k',i'<i->i'<k'->k'<r.length->fM5 r i' k') (λi=>r.length-i) 0 ?_ ⟨Aa,λi' k' hi=>Aa⟩ (λi hi=>?_);exact zj;obtain⟨hi,hap⟩:=hi;by_cases o:i<r.length
 ·repeat' ((conv=>whnf);first|omega|refine zS ?_|refine zT ?_ ?_<;>intro _|fail)
  refine lD (A:=Nat) (λk=>mkSt [(0,rgV r),(3,I r.length),(5, .arr 49 0),(6,I i),(7,I k)] [] [(49,⟨0, .own,233,E.map sgV⟩)]) (λk=>i<k/\k<=r.length/\∀k',i<k'->k'<k->fM5 r i k') (λk=>r.length-k) (i+1) ?_ ⟨Aa,Aa,λk' h1 h2=>Aa⟩ (λk f=>?_);exact zj;obtain⟨q,f,hin⟩:=f;by_cases b:k<r.length
  ·have Q:=fI7 (E.getD i (z0,z0)) (E.getD k (z0,z0)) (d i o) (d k b)
   have x:=w i k;unfold adj at x;generalize dG (E.getD i (z0,z0)) (E.getD k (z0,z0))=m at*
   have H:fM5 r i k->∀k',i<k'->k'<k+1->fM5 r i k':=λh k' h1 h2=>by
    by_cases e:k'=k;subst e;exact h;exact hin k' h1 Aa
   have c:P->fM5 r i k:=λh=>(g.1 h).2.2.2.2.1 i k q b;generalize fM5 r i k=R at*;repeat' ((conv=>whnf);first|omega|refine dS rfl rfl FK ?_|refine dV6 (k:=i) Aa Aa ?_|refine dV6 (k:=k) Aa Aa ?_|refine zS ?_|refine zT ?_ ?_<;>intro _|fail)
   all_goals conv=>whnf
   all_goals first
    |(refine aA (aC (λh=>?_));have N:=x.1 (c h);omega)
    |skip
   all_goals
    refine⟨k+1,?_,⟨Aa,Aa,H (x.2 ⟨λh=>Aa,λh=>Aa⟩)⟩,Aa⟩
    ·exact zj
  exact J5
 have C:i=r.length:=by omega
 subst C;repeat' ((conv=>whnf);first|omega|refine zS ?_|refine zT ?_ ?_<;>intro _|fail)
 all_goals conv=>whnf
 refine aA (aS1 ?_);rw[g];exact⟨λh=>⟨h3,j,y,ht,λi k h1 h2=>hap i k Aa h1 h2,h⟩,λh=>h.2.2.2.2.2⟩
end Go.Proofs.Led
