/-
  Segments with a point in common have an end in common or cross; where a whole point lies, by parity.
-/
import Derived.Test.YtkhhdojgbkophaaGreatQB16
set_option linter.unusedVariables false
set_option linter.unusedSimpArgs false
set_option maxRecDepth 100000
set_option maxHeartbeats 8000000
noncomputable section
namespace Go.Proofs.Led
open Go Go.Proofs Go.Ab
theorem eW1{c d v:Vc}(hne:c≠d)(hb:Bb (c,d) v)(hx:X (dif d c) (dif v c)=0):∃N k,Onp N k c d v:=by
 unfold Bb at hb;unfold X dif at hx;simp only at hb hx;by_cases h1:c.1=d.1
 ·have h2:c.2≠d.2:=fun h=>hne (Prod.ext h1 h)
  have e0:v.1=c.1:=Aa;by_cases h3:c.2<d.2
  ·exact⟨d.2-c.2,v.2-c.2,Aa,Aa,Aa,E8,Int.mul_comm _ _⟩
  ·exact⟨c.2-d.2,c.2-v.2,Aa,Aa,Aa,E8,BV⟩
 ·by_cases h3:c.1<d.1
  ·exact⟨d.1-c.1,v.1-c.1,Aa,Aa,Aa,Int.mul_comm _ _,BV⟩
  ·exact⟨c.1-d.1,c.1-v.1,Aa,Aa,Aa,BV,BV⟩
theorem cX7{s:Sg}(hs:bI s)(hne:s.1≠s.2){v:Vc}(h:eX s v):∃N k,Onp N k s.1 s.2 v:=by
 obtain⟨h1,h2⟩:=(gZ hs).1 h;exact eW1 hne h1 h2
theorem eP6{s t:Sg}(hs:bI s)(ht:bI t)(h1:s.1≠s.2)(h2:t.1≠t.2)(hd:xD s t=0)(hB:xB s t=0){v:Vc}(hv:Com s t v):∃p,uH s t p/\Com s t p:=by
 obtain⟨x1,x2,x3,x4⟩:=vK s t;have hw:=bZ7 h1;have la:onL (dif s.2 s.1) s.1 s.1:=by unfold onL X dif;simp
 have lb:onL (dif s.2 s.1) s.1 s.2:=F7;have lc:onL (dif s.2 s.1) s.1 t.1:=by unfold onL;rw[x1,hB];rfl
 have ld:onL (dif s.2 s.1) s.1 t.2:=by unfold onL;rw[x2,hB,hd];rfl
 have lv:onL (dif s.2 s.1) s.1 v:=((gZ hs).1 hv.1).2;have lt':∀p,onL (dif s.2 s.1) s.1 p->X (dif t.2 t.1) (dif p t.1)=0:=fun p hp=>Lp
 have hf:∀p,onL (dif s.2 s.1) s.1 p->(Com s t p↔(min (co (dif s.2 s.1) s.1) (co (dif s.2 s.1) s.2)<=co (dif s.2 s.1) p/\co (dif s.2 s.1) p<=max (co (dif s.2 s.1) s.1) (co (dif s.2 s.1) s.2))/\
  (min (co (dif s.2 s.1) t.1) (co (dif s.2 s.1) t.2)<=co (dif s.2 s.1) p/\co (dif s.2 s.1) p<=max (co (dif s.2 s.1) t.1) (co (dif s.2 s.1) t.2))):=fun p hp=>by
  exact QG
 have hv':=(hf v lv).1 hv;generalize co (dif s.2 s.1) v=y at*;rcases(show(co (dif s.2 s.1) s.1=max (min (co (dif s.2 s.1) s.1) (co (dif s.2 s.1) s.2)) (min (co (dif s.2 s.1) t.1) (co (dif s.2 s.1) t.2)))\/(co (dif s.2 s.1) s.2=max (min (co (dif s.2 s.1) s.1) (co (dif s.2 s.1) s.2)) (min (co (dif s.2 s.1) t.1) (co (dif s.2 s.1) t.2)))\/(co (dif s.2 s.1) t.1=max (min (co (dif s.2 s.1) s.1) (co (dif s.2 s.1) s.2)) (min (co (dif s.2 s.1) t.1) (co (dif s.2 s.1) t.2)))\/(co (dif s.2 s.1) t.2=max (min (co (dif s.2 s.1) s.1) (co (dif s.2 s.1) s.2)) (min (co (dif s.2 s.1) t.1) (co (dif s.2 s.1) t.2))) from Aa)with h|h|h|h
 ·exact⟨s.1, .inl rfl,(hf _ la).2 Aa⟩
 ·exact⟨s.2, .inr (.inl rfl),(hf _ lb).2 Aa⟩
 ·exact⟨t.1, .inr (.inr (.inl rfl)),(hf _ lc).2 Aa⟩
 ·exact⟨t.2, .inr (.inr (.inr rfl)),(hf _ ld).2 Aa⟩
theorem eK6{N k:Int}{c d v:Vc}(h:Onp N k c d v)(u w:Vc):(0<X u (dif c w)->0<X u (dif d w)->0<X u (dif v w))/\(X u (dif c w)<0->X u (dif d w)<0->X u (dif v w)<0):=by
 obtain⟨h1,h2,h3,h4,h5⟩:=h;have e:N*X u (dif v w)=(N-k)*X u (dif c w)+k*X u (dif d w):=CJ;have s1:=sgn N (X u (dif v w))
 have s2:=sgn (N-k) (X u (dif c w));have s3:=sgn k (X u (dif d w))
 rw[e]at s1;generalize (N-k)*X u (dif c w)=t1 at*;generalize k*X u (dif d w)=t2 at*;omega
theorem eZ7{s t:Sg}(hs:bI s)(ht:bI t)(h1:s.1≠s.2)(h2:t.1≠t.2)(hm:dG s t=0){v:Vc}(a:eX s v)(b:eX t v):False:=by
 obtain⟨N,k,ha⟩:=cX7 hs h1 a;obtain⟨M,j,hb⟩:=cX7 ht h2 b;have xa:=((gZ hs).1 a).2;have xb:=((gZ ht).1 b).2
 have q1:=eK6 hb (dif s.2 s.1) s.1;have q2:=eK6 ha (dif t.2 t.1) t.1
 rcases rC hs ht h1 hm with q|q|q|q|q
 ·have:=q1.1 q.1 q.2;omega
 ·have:=q1.2 q.1 q.2;omega
 ·have:=q2.1 q.1 q.2;omega
 ·have:=q2.2 q.1 q.2;omega
 ·obtain⟨x1,x2,x3,x4⟩:=vK s t
  have:=(tells hs ht).touch.1 (eP6 hs ht h1 h2 Aa Aa ⟨a,b⟩);omega
theorem dM4{s t:Sg}:dG s t=0\/dG s t=1\/dG s t=2\/dG s t=3:=by
 unfold dG kQ;split
 ·exact .inl rfl
 ·split
  ·unfold lines
   simp only;split
   ·exact .inl rfl
   ·show aH6 _ _ _=0\/_
    unfold aH6;split<;>simp
  ·split
   ·exact .inr (.inl rfl)
   ·split
    ·exact .inr (.inl rfl)
    ·split
     ·exact .inl rfl
     ·unfold yD
      split
      ·exact .inr (.inl rfl)
      ·split
       ·exact .inr (.inr (.inr rfl))
       ·exact .inl rfl
theorem eD0{s t:Sg}{p:Vc}:uH s t p/\Com s t p↔uH t s p/\Com t s p:=by
 unfold uH Com;constructor
 ·rintro⟨h|h|h|h,a,b⟩<;>simp[h,a,b] <;>(subst h;simp[a,b])
 ·rintro⟨h|h|h|h,a,b⟩<;>simp[h,a,b] <;>(subst h;simp[a,b])
theorem bS4{s t:Sg}(hs:bI s)(ht:bI t):dG s t=0↔(¬∃p,uH s t p/\Com s t p)/\¬zT9 s t:=by
 have h:=tells hs ht;have hv:=dM4 (s:=s) (t:=t)
 constructor
 ·intro h0
  have e:¬∃p,uH s t p/\Com s t p:=fun q=>by have:=h.touch.1 q;omega
  exact⟨e,fun q=>by have:=h.cross.2 ⟨e,q⟩;omega⟩
 ·rintro⟨h1,h2⟩
  rcases hv with q|q|q|q
  ·exact q
  ·exact absurd (h.touch.2 (.inl q)) h1
  ·exact absurd (h.cross.1 q).2 h2
  ·exact absurd (h.touch.2 (.inr q)) h1
theorem dS2{s t:Sg}(hs:bI s)(ht:bI t)(h:dG s t=0):dG t s=0:=by
 rw[bS4 hs ht]at h;rw[bS4 ht hs];refine⟨fun⟨p,hp⟩=>h.1 ⟨p,eD0.1 hp⟩,fun q=>h.2 ?_⟩;exact⟨q.2,q.1⟩
theorem vV{r:Rg}(h:3<=r.length):bF r=dD (fun i=>r.getD i z0) r.length:=by
 unfold bF dD;rw[if_neg Aa];refine List.map_congr_left (fun i hi=>?_);have:=List.mem_range.1 hi
 show(r.getD i z0,iU r i)=_;rw[Nat.mod_eq_of_lt this];rfl
theorem bC9{r:Rg}(h:3<=r.length){e:Sg}:e∈bF r↔∃i,i<r.length/\e=aJ4 r i:=by
 unfold bF;rw[if_neg Aa,List.mem_map];constructor
 ·rintro⟨i,hi,rfl⟩;exact⟨i,List.mem_range.1 hi,rfl⟩
 ·rintro⟨i,hi,rfl⟩;exact⟨i,List.mem_range.2 hi,rfl⟩
theorem vN{r:Rg}(hn:bR7 r){v:Vc}(hv:v∈r):Sm4 v:=by
 have:=hn v hv;rw[within_iff Aa]at this;unfold Sm4;omega
theorem aG8{r:Rg}(h:dM r){e:Sg}(he:e∈bF r):e.1≠e.2:=by
 obtain⟨i,hi,rfl⟩:=(bC9 h.1).1 he;intro hq;have ht:=h.2.2.2.2.1 i hi;apply ht;have h1:=vN h.2.2.1 (aE1 hi)
 have h2:=vN h.2.2.1 (v:=mY r i) (aE1 (Nat.mod_lt _ Aa));have h3:=vN h.2.2.1 (bA6 hi)
 rw[zH h2 h1 h3];have hq':r.getD i z0=iU r i:=hq;rw[hq'];have:X (dif (iU r i) (mY r i)) (dif (iU r i) (mY r i))=0:=by unfold X;rw[Int.mul_comm];omega
 rw[this];rfl
theorem bH8{p:Vc}(hp:Sm4 p):∀ {l:List Sg} {b:Bool},(∀e∈l,bI e)->(∀e∈l,¬eX e p)->lU (p.1,p.2,1) l b=if(b^^par p l)=true then 2 else 0
 | [],b,_,_=>by
   rw[qB];show _=if(b^^false)=true then 2 else 0
   rw[Bool.xor_false]
 |e::l,b,h1,h2=>by
  have he:=h1 e Af;have hn:=h2 e Af
  have hno:¬onE (p.1,p.2,1) e:=fun q=>hn ((cC3 hp he).1 q);have hpar:par p (e::l)=(decB (ray e p)^^par p l):=rfl
  have ih:=fun b=>bH8 hp (l:=l) (b:=b) (fun x hx=>h1 x Bq) (fun x hx=>h2 x Bq);by_cases hf:rW (p.1,p.2,1) e
  ·rw[rE hno hf,ih,hpar,dH.2 (show ray e p from(dD7 hp he hn).1 hf)]
   cases b<;>cases par p l<;>rfl
  ·rw[jD hno hf,ih,hpar,dW.2 (show¬ray e p from fun q=>hf ((dD7 hp he hn).2 q))]
   cases b<;>cases par p l<;>rfl
def onR(r:Rg)(v:Vc):Prop:=∃e∈bF r,eX e v
theorem nZ{r:Rg}(h:dM r){v:Vc}(hv:Sm4 v):fJ r v=1↔onR r v:=by
 rw[aC1 (pY.2 hv),aD9 h (bC7 hv),yZ];constructor
 ·rintro⟨e,he,q⟩;exact⟨e,he,(cC3 hv (jO h.2.2.1 he)).1 q⟩
 ·rintro⟨e,he,q⟩;exact⟨e,he,(cC3 hv (jO h.2.2.1 he)).2 q⟩
theorem zS9{r:Rg}(h:dM r){v:Vc}(hv:Sm4 v)(hn:¬onR r v):fJ r v=if par v (bF r)=true then 2 else 0:=by
 rw[aC1 (pY.2 hv),aD9 h (bC7 hv),bH8 hv (fun e he=>jO h.2.2.1 he) (fun e he q=>hn ⟨e,he,q⟩),Bool.false_xor]
theorem zD{r:Rg}(h:dM r){v:Vc}(hv:Sm4 v):fJ r v=2↔¬onR r v/\par v (bF r)=true:=by
 constructor
 ·intro h2
  have hn:¬onR r v:=fun q=>by have:=(nZ h hv).2 q;omega
  refine⟨hn,?_⟩;rw[zS9 h hv hn]at h2;split at h2
  ·assumption
  ·omega
 ·rintro⟨h1,h2⟩
  rw[zS9 h hv h1,if_pos h2]
theorem aE8{r:Rg}(h:dM r){v:Vc}(hv:Sm4 v):fJ r v=0↔¬onR r v/\par v (bF r)=false:=by
 constructor
 ·intro h2
  have hn:¬onR r v:=fun q=>by have:=(nZ h hv).2 q;omega
  refine⟨hn,?_⟩;rw[zS9 h hv hn]at h2;split at h2
  ·omega
  ·simpa using ‹¬par v (bF r)=true›
 ·rintro⟨h1,h2⟩
  rw[zS9 h hv h1,h2];rfl
structure Apart(a b:Rg):Prop where
 oa:dM a
 ob:dM b
 ap:uV a b
theorem Apart.symm{a b:Rg}(h:Apart a b):Apart b a:=⟨h.ob,h.oa,fun x hx y hy=>dS2 (jO h.oa.2.2.1 hy) (jO h.ob.2.2.1 hx) (h.ap y hy x hx)⟩
theorem Apart.sep{a b:Rg}(h:Apart a b){f g:Sg}(hf:f∈bF a)(hg:g∈bF b):Sep f.1 f.2 g:=
 rC (jO h.oa.2.2.1 hf) (jO h.ob.2.2.1 hg) (aG8 h.oa hf) (h.ap f hf g hg)
theorem Apart.off{a b:Rg}(h:Apart a b){v:Vc}(hv:onR a v):¬onR b v:=by
 rintro⟨g,hg,q⟩;obtain⟨f,hf,p⟩:=hv;exact eZ7 (jO h.oa.2.2.1 hf) (jO h.ob.2.2.1 hg) (aG8 h.oa hf) (aG8 h.ob hg) (h.ap f hf g hg) p q
theorem Apart.along{a b:Rg}(h:Apart a b){f:Sg}(hf:f∈bF a){v:Vc}(hv:eX f v):par v (bF b)=par f.2 (bF b):=by
 obtain⟨N,k,hk⟩:=cX7 (jO h.oa.2.2.1 hf) (aG8 h.oa hf) hv;rw[vV h.ob.1];exact eY9 _ _ hk (fun g hg=>h.sep hf (by rw[vV h.ob.1];exact hg))
theorem vert_onR{r:Rg}(h:dM r){v:Vc}(hv:v∈r):onR r v:=by
 obtain⟨e,he,rfl⟩:=bC8 h.1 hv;exact⟨e,he,rH (jO h.2.2.1 he)⟩
theorem vH{r:Rg}(h:dM r){e:Sg}(he:e∈bF r):e.1∈r/\e.2∈r:=by
 obtain⟨i,hi,rfl⟩:=(bC9 h.1).1 he;exact⟨aE1 hi,bA6 hi⟩
theorem Apart.const{a b:Rg}(h:Apart a b):∀i,i<a.length->par (a.getD i z0) (bF b)=par (a.getD 0 z0) (bF b):=by
 intro i
 induction i with
 |zero=>intro _;rfl
 |succ i ih=>
  intro hi;rw[<-ih Aa];have he:aJ4 a i∈bF a:=(bC9 h.oa.1).2 ⟨i,Aa,rfl⟩;have k:=h.along he (rH (jO h.oa.2.2.1 he))
  have e2:(aJ4 a i).2=a.getD (i+1) z0:=by
   show iU a i=_;unfold iU;rw[Nat.mod_eq_of_lt hi]
  rw[e2]at k;exact k.symm
theorem Apart.fC0{a b:Rg}(h:Apart a b){u v:Vc}(hu:u∈a)(hv:v∈a):par u (bF b)=par v (bF b):=by
 obtain⟨i,hi,rfl⟩:=List.mem_iff_getElem.1 hu;obtain⟨j,hj,rfl⟩:=List.mem_iff_getElem.1 hv;have h1:=h.const i hi;have h2:=h.const j hj
 rw[List.getD_eq_getElem?_getD,List.getElem?_eq_getElem hi]at h1;rw[List.getD_eq_getElem?_getD,List.getElem?_eq_getElem hj]at h2;exact h1.trans h2.symm
theorem eB8:∀ {l:List Vc},l≠ []->∃m∈l,∀v∈l,v.2<=m.2
 | [],h=>absurd rfl h
 | [x],_=>⟨x,Af,fun v hv=>by rw[List.mem_singleton.1 hv];omega⟩
 |x::y::l,_=>by
  obtain⟨m,h1,h2⟩:=eB8 (l:=y::l) Af;by_cases h:m.2<=x.2
  ·refine⟨x,Af,fun v hv=>?_⟩
   rcases List.mem_cons.1 hv with rfl|hv
   ·omega
   ·have:=h2 v hv;omega
  ·refine⟨m,IW,fun v hv=>?_⟩
   rcases List.mem_cons.1 hv with rfl|hv
   ·omega
   ·exact h2 v hv
theorem Apart.outer{h o:Rg}(ha:Apart h o)(hin:pR h o 2):∀v∈o,par v (bF h)=false:=by
 have hne:o≠ [] :=fun q=>by have:=ha.ob.1;rw[q]at this;simp at this
 obtain⟨m,hm,hmax⟩:=eB8 hne
 have hlow:∀u∈h,u.2<=m.2:=by
  intro u hu;by_cases hq:u.2<=m.2
  ·exact hq
  exfalso;have h1:=((zD ha.ob (vN ha.oa.2.2.1 hu)).1 (hin u hu)).2
  rw[dH1 (fun e he=>by
   obtain⟨q1,q2⟩:=vH ha.ob he;have:=hmax _ q1;have:=hmax _ q2;omega)]at h1
  cases h1
 have h0:par m (bF h)=false:=dH1 (fun e he=>by
  obtain⟨q1,q2⟩:=vH ha.oa he;exact⟨hlow _ q1,hlow _ q2⟩)
 intro v hv;rw[<-h0];exact ha.symm.fC0 hv hm
theorem Apart.inner{h o:Rg}(ha:Apart h o)(hin:pR h o 2){v:Vc}(hv:Sm4 v)(hw:fJ h v≠0):fJ o v=2:=by
 rw[zD ha.ob hv];by_cases hon:onR h v
 ·refine⟨ha.off hon,?_⟩
  obtain⟨f,hf,q⟩:=hon;rw[ha.along hf q];exact Tc
 ·have hpar:par v (bF h)=true:=by
   cases hb:par v (bF h)
   ·exact absurd ((aE8 ha.oa hv).2 ⟨hon,hb⟩) hw
   ·rfl
  have hout:=ha.outer hin;constructor
  ·rintro⟨g,hg,q⟩
   have:=ha.symm.along hg q;rw[hpar,hout _ (vH ha.ob hg).2]at this;cases this
  ·have eo:=vV ha.ob.1
   have eh:=vV ha.oa.1;rw[eo];rw[eh]at hpar;refine cT7 (vh:=fun i=>h.getD i z0) (nh:=h.length) ?_ ?_ ?_ ?_ ?_ ?_ ?_ hpar
   ·intro g hg;rw[<-eo]at hg;exact jO ha.ob.2.2.1 hg
   ·intro f hf;rw[<-eh]at hf;exact jO ha.oa.2.2.1 hf
   ·intro f hf g hg
    rw[<-eh]at hf;rw[<-eo]at hg;exact⟨ha.ap f hf g hg,ha.symm.ap g hg f hf⟩
   ·intro f hf;rw[<-eh]at hf;exact aG8 ha.oa hf
   ·intro g hg;rw[<-eo]at hg;exact aG8 ha.ob hg
   ·intro f hf
    rw[<-eh]at hf;rw[<-eo];exact Tc
   ·intro g hg
    rw[<-eo]at hg;rw[<-eh];exact hout _ (vH ha.ob hg).2
theorem Apart.beside{h k:Rg}(ha:Apart h k)(hout:pR h k 0){v:Vc}(hon:onR h v)(hv:Sm4 v):fJ k v=0:=by
 rw[aE8 ha.ob hv];refine⟨ha.off hon,?_⟩;obtain⟨f,hf,q⟩:=hon;rw[ha.along hf q];have h2:=(vH ha.oa hf).2;exact((aE8 ha.ob (vN ha.oa.2.2.1 h2)).1 (hout _ h2)).2
theorem bK3{o:Rg}:∀ {l pre:List Rg},qR o pre l->(∀r∈l,dM r)->dM o->∀h∈l,Apart h o/\pR h o 2
 | [],_,_,_,_,h,hh=>by cases hh
 |x::l,pre,hk,hr,ho,h,hh=>by
  rcases List.mem_cons.1 hh with rfl|hh
  ·exact⟨⟨hr h Af,ho,hk.1.2.1⟩,hk.1.1⟩
  ·exact bK3 hk.2 (fun r q=>hr r (by simp[q])) ho h hh
theorem bK4{s:Sh}(hs:bG s){h:Rg}(hh:h∈s.holes):Apart h s.outer/\pR h s.outer 2:=
 bK3 hs.2.2.2 (fun r hr=>hs.2.1 r DY) (hs.2.1 s.outer AA) h hh
theorem bF4{o:Rg}:∀ {l pre:List Rg},qR o pre l->∀ {i j:Nat} {a b:Rg},i<j->(pre++l)[i]? =some a->l[j-pre.length]? =some b->pre.length<=j->uV b a/\pR b a 0/\pR a b 0
 | [],pre,_,i,j,a,b,hij,ha,hb,hp=>by simp at hb
 |x::l,pre,hk,i,j,a,b,hij,ha,hb,hp=>by
  by_cases hj:j=pre.length
  ·subst hj
   rw[Nat.sub_self]at hb;cases hb
   have hm:a∈pre:=by
    rw[List.getElem?_append_left hij]at ha;exact List.mem_of_getElem? ha
   exact hk.1.2.2 a hm
  ·refine bF4 (l:=l) (pre:=pre++[x]) hk.2 hij (by rw[List.append_assoc];exact ha) ?_ AV
   rw[List.length_append,List.length_singleton];rw[show j-pre.length=(j- (pre.length+1))+1 from Aa,List.getElem?_cons_succ]at hb;exact hb
theorem cS9{s:Sh}(hs:bG s){i j:Nat}{a b:Rg}(hij:i<j)(ha:s.holes[i]? =some a)(hb:s.holes[j]? =some b):Apart b a/\pR b a 0/\pR a b 0:=by
 have h:=bF4 (pre:=[]) hs.2.2.2 hij ha hb (Nat.zero_le _);exact⟨⟨hs.2.1 b (by unfold rings;simp[List.mem_of_getElem? hb]),hs.2.1 a (by unfold rings;simp[List.mem_of_getElem? ha]),h.1⟩,h.2⟩
def lG(v:Vc)(o:Int):List Rg->Int
 | [] =>o
 |h::l=>if fJ h v=2 then 0 else if fJ h v=1 then 1 else lG v o l
theorem cJ3{r:Rg}{v:Vc}:fJ r v=0\/fJ r v=1\/fJ r v=2:=by
 unfold fJ;split
 ·unfold iF
  split
  ·exact fL3 _ _ _
  ·simp
 ·simp
theorem cI4{r:Rg}{v:Vc}(hv:Sm4 v):iF r (v.1,v.2,1)=fJ r v:=(aC1 (pY.2 hv)).symm
theorem bT3{v:Vc}(hv:Sm4 v)(o:Int):∀l:List Rg,qG o (v.1,v.2,1) l=lG v o l
 | [] =>rfl
 |h::l=>by
  rw[qG,lG,cI4 hv,bT3 hv o l]
theorem tH{v:Vc}{o:Int}:∀ {l:List Rg},(∀h∈l,fJ h v=0)->lG v o l=o
 | [],_=>rfl
 |h::l,hh=>by
  have h0:=hh h Af;rw[lG,if_neg Aa,if_neg Aa];exact tH (fun x hx=>hh x Bq)
theorem eG3{s:Sh}(hs:bG s){v:Vc}(hv:Sm4 v):lJ s v=lG v (fJ s.outer v) s.holes:=by
 unfold lJ;rw[if_pos (pY.2 hv)];unfold qW;rw[if_pos hs,cI4 hv,bT3 hv];by_cases hh:∃h∈s.holes,fJ h v≠0
 ·obtain⟨h,hm,hw⟩:=hh
  obtain⟨ha,hin⟩:=bK4 hs hm;rw[ha.inner hin hv hw,if_pos rfl]
 ·have h0:∀h∈s.holes,fJ h v=0:=fun h hm=>by
   by_cases q:fJ h v=0
   ·exact q
   ·exact absurd ⟨h,hm,q⟩ hh
  rw[tH h0,tH h0];split
  ·omega
  ·rfl
theorem fD8{s:Sh}(hs:bG s){v:Vc}(hv:Sm4 v):lJ s v=1↔∃r∈rings s,onR r v:=by
 have ho:dM s.outer:=hs.2.1 _ AA;rw[eG3 hs hv];constructor
 ·intro h
  by_cases hh:∃h∈s.holes,fJ h v=1
  ·obtain⟨r,hm,hw⟩:=hh
   exact⟨r,by unfold rings;simp[hm],(nZ (hs.2.1 r (by unfold rings;simp[hm])) hv).1 hw⟩
  ·have key:∀l:List Rg,(∀r∈l,fJ r v≠1)->lG v (fJ s.outer v) l=1->fJ s.outer v=1:=by
    intro l
    induction l with
    |nil=>intro _ h;exact h
    |cons x l ih=>
     intro q h;rw[lG]at h;split at h
     ·omega
     ·rw[if_neg (q x Af)]at h
      exact ih (fun r hr=>q r Jy) h
   have:=key s.holes (fun r hm hw=>hh ⟨r,hm,hw⟩) h;exact⟨s.outer,AA,(nZ ho hv).1 this⟩
 ·rintro⟨r,hr,hon⟩
  rcases List.mem_cons.1 (show r∈s.outer::s.holes from hr)with rfl|hr
  ·have h0:∀h∈s.holes,fJ h v=0:=fun h hm=>by
    obtain⟨ha,hin⟩:=bK4 hs hm;by_cases q:fJ h v=0
    ·exact q
    ·have:=ha.inner hin hv q
     have:=(nZ ho hv).2 hon;omega
   rw[tH h0];exact(nZ ho hv).2 hon
  ·obtain⟨j,hj⟩:=List.mem_iff_getElem?.1 hr
   have hrok:dM r:=hs.2.1 r DY;have hw1:=(nZ hrok hv).2 hon
   have key:∀(l:List Rg) (n:Nat),(∀i a,l[i]? =some a->s.holes[n+i]? =some a)->n<=j->l[j-n]? =some r->lG v (fJ s.outer v) l=1:=by
    intro l
    induction l with
    |nil=>intro n _ _ h;simp at h
    |cons x l ih=>
     intro n hl hn hx;rw[lG];by_cases hjn:j=n
     ·subst hjn
      rw[Nat.sub_self]at hx;cases hx;rw[if_neg Aa,if_pos hw1]
     ·have hxo:=hl 0 x rfl
      obtain⟨ha,hb,hc⟩:=cS9 hs (i:=n) (j:=j) Aa hxo hj;have h0:=ha.beside hb hon hv;rw[if_neg Aa,if_neg Aa];refine ih (n+1) (fun i a hi=>?_) Aa ?_
      ·rw[Nat.add_assoc,Nat.add_comm 1]
       exact hl (i+1) a (by rw[List.getElem?_cons_succ];exact hi)
      ·rw[show j-n=(j- (n+1))+1 from Aa,List.getElem?_cons_succ]at hx
       exact hx
   exact key s.holes 0 (fun i a h=>by rw[Nat.zero_add];exact h) (Nat.zero_le _) hj
def Dt(u v:Vc):Int:=u.1*v.1+u.2*v.2
def SmV(u:Vc):Prop:=Sm u.1/\Sm u.2
theorem mD{u v:Vc}(hu:SmV u)(hv:SmV v):bZ u v=X u v:=iK hu.1 hu.2 hv.1 hv.2
theorem aE6{u v:Vc}(hu:SmV u)(hv:SmV v):vdot u v=Dt u v:=bY4 hu.1 hu.2 hv.1 hv.2
def aP5(u v:Vc):Prop:=bZ u v=0/\0<vdot u v
def dG5(u v:Vc):Prop:=bZ u v<0\/(bZ u v=0/\vdot u v<0)
open Classical in
def aP1(x:Sg)(d:Vc):Prop:=if aP5 x.1 d\/aP5 x.2 d then False else if¬(dG5 x.1 d↔dG5 x.1 x.2)then dG5 x.1 x.2 else 0<bZ d x.2
def dI3(x y:Sg):Prop:=aP5 x.1 y.1\/aP1 x y.1\/aP1 y x.1
theorem dN3{n c1 e1 c2 e2 c3 e3:Int}(hn:0<n)(h1:n*c3=e1*c2-c1*e2)(h2:n*e3=e1*e2+c1*c2)(h3:¬(c1=0/\e1=0))(h4:¬(c2=0/\0<=e2)):
 (((if 0<c1 then 0 else if c1<0 then 2 else if e1<0 then(1:Int)else 3)< (if 0<c2 then 0 else if c2<0 then 2 else if e2<0 then 1 else 3))\/
   ((if 0<c1 then 0 else if c1<0 then 2 else if e1<0 then(1:Int)else 3)=(if 0<c2 then 0 else if c2<0 then 2 else if e2<0 then 1 else 3)/\(if 0<c1 then 0 else if c1<0 then 2 else if e1<0 then(1:Int)else 3)≠3/\0<c3))↔
 ¬((c1=0/\0<e1)\/(c3=0/\0<e3))/\((¬((c1<0\/(c1=0/\e1<0))↔(c2<0\/(c2=0/\e2<0)))/\(c2<0\/(c2=0/\e2<0)))\/(((c1<0\/(c1=0/\e1<0))↔(c2<0\/(c2=0/\e2<0)))/\0<c3)):=by
 have g1:=fK2 (G:=c3) hn;have g2:=fK2 (G:=e3) hn
 rw[h1]at g1;rw[h2]at g2;clear h1 h2;rcases Int.lt_trichotomy c1 0 with hc1|hc1|hc1
 ·rw[if_neg (show¬0<c1 from Aa),if_pos (show c1<0 from Aa)]
  rcases Int.lt_trichotomy c2 0 with hc2|hc2|hc2
  ·rw[if_neg (show¬0<c2 from Aa),if_pos (show c2<0 from Aa)]
   clear g1 g2;omega
  ·have he2:e2<0:=by omega
   have p1:=Int.mul_pos_of_neg_of_neg hc1 he2;exact Ry
  ·rw[if_pos hc2]
   clear g1 g2;omega
 ·rw[if_neg (show¬0<c1 from Aa),if_neg (show¬c1<0 from Aa)]
  by_cases he1:e1<0
  ·rw[if_pos he1]
   rcases Int.lt_trichotomy c2 0 with hc2|hc2|hc2
   ·have p1:=Int.mul_pos_of_neg_of_neg he1 hc2
    rw[if_neg (show¬0<c2 from Aa),if_pos (show c2<0 from Aa)];rw[hc1,Int.zero_mul]at g1;clear g2;generalize e1*c2=m at*;omega
   ·rw[if_neg (show¬0<c2 from Aa),if_neg (show¬c2<0 from Aa),if_pos (show e2<0 from Aa)]
    clear g1 g2;omega
   ·rw[if_pos hc2]
    clear g1 g2;omega
  ·rw[if_neg he1]
   clear g1 g2;rcases Int.lt_trichotomy c2 0 with hc2|hc2|hc2
   ·rw[if_neg (show¬0<c2 from Aa),if_pos (show c2<0 from Aa)]
    omega
   ·rw[if_neg (show¬0<c2 from Aa),if_neg (show¬c2<0 from Aa),if_pos (show e2<0 from Aa)]
    omega
   ·rw[if_pos hc2]
    omega
 ·rw[if_pos hc1]
  rcases Int.lt_trichotomy c2 0 with hc2|hc2|hc2
  ·rw[if_neg (show¬0<c2 from Aa),if_pos (show c2<0 from Aa)]
   have p1:=Int.mul_neg_of_pos_of_neg hc1 hc2;have s1:=sgn e1 c2
   have s2:=sgn c1 e2;have s3:=sgn e1 e2
   generalize c1*c2=m at*;generalize e1*c2=m1 at*;generalize c1*e2=m2 at*;generalize e1*e2=m3 at*
   have key:¬(c3=0/\0<e3):=by
    rintro⟨q1,q2⟩;have q3:m1=m2:=Aa;obtain⟨a1,a2,a3,a4,a5,a6⟩:=s1;obtain⟨b1,b2,b3,b4,b5,b6⟩:=s2;obtain⟨i1,i2,i3,i4,i5,i6⟩:=s3;rcases Int.lt_trichotomy e1 0 with he1|he1|he1<;>rcases Int.lt_trichotomy e2 0 with he2|he2|he2
    ·have:=a4 he1 hc2;have:=b2 hc1 he2;omega
    ·have:=i6 he2;omega
    ·have:=i3 he1 he2;omega
    ·have:=i5 he1;omega
    ·have:=i5 he1;omega
    ·have:=i5 he1;omega
    ·have:=i2 he1 he2;omega
    ·have:=i6 he2;omega
    ·have:=a2 he1 hc2;have:=b1 hc1 he2;omega
   clear s1 s2 s3 g1 g2 p1;omega
  ·have he2:e2<0:=by omega
   have p1:=Int.mul_neg_of_pos_of_neg hc1 he2;exact Ry
  ·rw[if_pos hc2]
   clear g1 g2;omega
theorem lag(u v w:Vc):Dt u u*X v w=Dt u v*X u w-X u v*Dt u w/\Dt u u*Dt v w=Dt u v*Dt u w+X u v*X u w:=by
 unfold Dt X;constructor<;>grind
theorem cY3{u:Vc}(h:u≠(0,0)):0<Dt u u:=by
 unfold Dt;have s1:=sgn u.1 u.1;have s2:=sgn u.2 u.2
 have:¬(u.1=0/\u.2=0):=fun q=>h (Prod.ext q.1 q.2);generalize u.1*u.1=a at*;generalize u.2*u.2=b at*;omega
theorem cP3{u v:Vc}(hu:u≠(0,0))(hv:v≠(0,0)):¬(X u v=0/\Dt u v=0):=by
 rintro⟨h1,h2⟩;have k:=(lag u v v).2;rw[h1,h2,Int.zero_mul]at k;have p1:=cY3 hu
 have p2:=cY3 hv;have:=Int.mul_pos p1 p2
 omega
theorem eQ2{u v:Vc}(hu:SmV u)(hv:SmV v)(nu:u≠(0,0))(nv:v≠(0,0)):jS u v=3↔aP5 u v:=by
 have k:=cP3 nu nv;unfold jS aP5;rw[mD hu hv,aE6 hu hv];generalize X u v=a at*;generalize Dt u v=b at*;split
 ·omega
 ·split
  ·omega
  ·split<;>omega
structure SecG(x:Sg):Prop where
 s1:SmV x.1
 s2:SmV x.2
 n1:x.1≠(0,0)
 n2:x.2≠(0,0)
 ne:¬(X x.1 x.2=0/\0<=Dt x.1 x.2)
theorem eB7(u v:Vc):X u v= -X v u:=by unfold X;grind
theorem dH3(u v:Vc):Dt u v=Dt v u:=by unfold Dt;grind
theorem bQ9{x:Sg}(hx:SecG x){d:Vc}(hd:SmV d)(nd:d≠(0,0)):oG x d↔aP1 x d:=by
 obtain⟨k1,k2⟩:=lag x.1 d x.2;have key:=dN3 (cY3 hx.n1) k1 k2 (cP3 hx.n1 nd) hx.ne;unfold oG aP1 jS aP5 dG5;rw[mD hx.s1 hd,aE6 hx.s1 hd,mD hx.s1 hx.s2,aE6 hx.s1 hx.s2,mD hd hx.s2,mD hx.s2 hd,aE6 hx.s2 hd,eB7 x.2 d,dH3 x.2 d];refine key.trans ?_;generalize X x.1 d=c1;generalize Dt x.1 d=e1;generalize X x.1 x.2=c2;generalize Dt x.1 x.2=e2;generalize X d x.2=c3;generalize Dt d x.2=e3;by_cases q:(c1=0/\0<e1)\/(-c3=0/\0<e3)
 ·rw[if_pos q]
  constructor
  ·rintro⟨a,_⟩;exact a Aa
  ·intro h;exact h.elim
 ·rw[if_neg q]
  by_cases q2:((c1<0\/(c1=0/\e1<0))↔(c2<0\/(c2=0/\e2<0)))
  ·rw[if_neg (fun h=>h q2)]
   constructor
   ·rintro⟨_,h|h⟩
    ·exact absurd q2 h.1
    ·exact h.2
   ·intro h;exact⟨Aa, .inr ⟨q2,h⟩⟩
  ·rw[if_pos q2]
   constructor
   ·rintro⟨_,h|h⟩
    ·exact h.2
    ·exact absurd h.1 q2
   ·intro h;exact⟨Aa, .inl ⟨q2,h⟩⟩
theorem bJ4{u v:Vc}(hu:SmV u)(hv:SmV v)(h:aP5 u v):aP5 v u:=by
 unfold aP5 at*;rw[mD hu hv,aE6 hu hv]at h;rw[mD hv hu,aE6 hv hu,eB7,dH3];omega
theorem fD6{x y:Sg}(hx:SecG x)(hy:SecG y):jH y x↔dI3 x y:=by
 unfold jH dI3;rw[bQ9 hy hx.s1 hx.n1,bQ9 hx hy.s1 hy.n1,eQ2 hy.s1 hx.s1 hy.n1 hx.n1];constructor
 ·rintro(h|h|h)
  ·exact .inl (bJ4 hy.s1 hx.s1 h)
  ·exact .inr (.inr h)
  ·exact .inr (.inl h)
 ·rintro(h|h|h)
  ·exact .inl (bJ4 hx.s1 hy.s1 h)
  ·exact .inr (.inr h)
  ·exact .inr (.inl h)
theorem fU1{a b x y:Int}(ha:0<a)(hb:0<b)(h:a*x=b*y):(0<x↔0<y)/\(x<0↔y<0)/\(x=0↔y=0):=by
 obtain⟨k1,k2⟩:=fK2 (G:=x) ha;obtain⟨k3,k4⟩:=fK2 (G:=y) hb;rw[h]at k1 k2;have e1:=k1.trans k3.symm;have e2:=k2.trans k4.symm
 clear k1 k2 k3 k4 h;exact⟨e1,e2,Aa⟩
def Dir(u v:Vc):Prop:=∃N m,0<N/\0<m/\N*u.1=m*v.1/\N*u.2=m*v.2
theorem dir_refl(u:Vc):Dir u u:=⟨1,1,Aq,Aq,rfl,rfl⟩
theorem aQ9{u u' v v':Vc}(hu:Dir u u')(hv:Dir v v'):((0<X u v↔0<X u' v')/\(X u v<0↔X u' v'<0)/\(X u v=0↔X u' v'=0))/\((0<Dt u v↔0<Dt u' v')/\(Dt u v<0↔Dt u' v'<0)/\(Dt u v=0↔Dt u' v'=0)):=by
 obtain⟨N,m,hN,hm,a1,a2⟩:=hu;obtain⟨M,k,hM,hk,b1,b2⟩:=hv
 have e1:(N*M)*X u v=(m*k)*X u' v':=by
  unfold X;have h1:(N*M)*(u.1*v.2-u.2*v.1)=(N*u.1)*(M*v.2)- (N*u.2)*(M*v.1):=BV;rw[h1,a1,a2,b1,b2];grind
 have e2:(N*M)*Dt u v=(m*k)*Dt u' v':=by
  unfold Dt;have h1:(N*M)*(u.1*v.1+u.2*v.2)=(N*u.1)*(M*v.1)+(N*u.2)*(M*v.2):=BV;rw[h1,a1,a2,b1,b2];grind
 exact⟨fU1 (Int.mul_pos hN hM) (Int.mul_pos hm hk) e1,fU1 (Int.mul_pos hN hM) (Int.mul_pos hm hk) e2⟩
theorem cF1{u u':Vc}(hu:Dir u u')(h:u'≠(0,0)):u≠(0,0):=by
 obtain⟨N,m,hN,hm,a1,a2⟩:=hu;intro q;rw[q]at a1 a2;simp only[Int.mul_zero]at a1 a2;apply h;rcases Int.mul_eq_zero.1 a1.symm with q1|q1
 ·omega
 ·rcases Int.mul_eq_zero.1 a2.symm with q2|q2
  ·omega
  ·exact Prod.ext q1 q2
def DirS(x y:Sg):Prop:=Dir x.1 y.1/\Dir x.2 y.2
theorem bI4{u u' v v':Vc}(su:SmV u)(su':SmV u')(sv:SmV v)(sv':SmV v')(hu:Dir u u')(hv:Dir v v'):jS u v=jS u' v':=by
 have k:=aQ9 hu hv;unfold jS;rw[mD su sv,mD su' sv',aE6 su sv,aE6 su' sv'];generalize X u v=a at*;generalize X u' v'=b at*;generalize Dt u v=c at*;generalize Dt u' v'=d at*;obtain⟨⟨k1,k2,k3⟩,k4,k5,k6⟩:=k;by_cases h1:0<a
 ·rw[if_pos h1,if_pos (k1.1 h1)]
 ·rw[if_neg h1,if_neg (fun q=>h1 (k1.2 q))]
  by_cases h2:a<0
  ·rw[if_pos h2,if_pos (k2.1 h2)]
  ·rw[if_neg h2,if_neg (fun q=>h2 (k2.2 q))]
   by_cases h3:c<0
   ·rw[if_pos h3,if_pos (k5.1 h3)]
   ·rw[if_neg h3,if_neg (fun q=>h3 (k5.2 q))]
theorem bP8{x x':Sg}{d d':Vc}(s1:SmV x.1)(s1':SmV x'.1)(s2:SmV x.2)(s2':SmV x'.2)(sd:SmV d)(sd':SmV d')(h:DirS x x')(hd:Dir d d'):oG x d↔oG x' d':=by
 unfold oG;rw[bI4 s1 s1' sd sd' h.1 hd,bI4 s1 s1' s2 s2' h.1 h.2,mD sd s2,mD sd' s2'];have k:=(aQ9 hd h.2).1.1;rw[k]
theorem fD7{x x' y y':Sg}(hx:SmV x.1/\SmV x.2)(hx':SmV x'.1/\SmV x'.2)(hy:SmV y.1/\SmV y.2)(hy':SmV y'.1/\SmV y'.2)(h1:DirS x x')(h2:DirS y y'):jH y x↔jH y' x':=by
 unfold jH;rw[bI4 hy.1 hy'.1 hx.1 hx'.1 h2.1 h1.1,bP8 hy.1 hy'.1 hy.2 hy'.2 hx.1 hx'.1 h2 h1.1,bP8 hx.1 hx'.1 hx.2 hx'.2 hy.1 hy'.1 h1 h2.1]
theorem secG_dir{x x':Sg}(h:DirS x x')(hs:SmV x.1/\SmV x.2)(hx:SecG x'):SecG x:=by
 have k:=aQ9 h.1 h.2;refine⟨hs.1,hs.2,cF1 h.1 hx.n1,cF1 h.2 hx.n2,fun q=>hx.ne ?_⟩;omega
end Go.Proofs.Led
