/-
  Where two segments meet: parallel segments.
-/
import Derived.Test.YtkhhdojgbkophaaGreatQB14
set_option linter.unusedVariables false
set_option linter.unusedSimpArgs false
set_option maxRecDepth 100000
set_option maxHeartbeats 4000000
noncomputable section
namespace Go.Proofs.Led
open Go Go.Proofs Go.Ab
theorem cD2{u p:Vc}(h:Bb (u,u) p):p=u:=by
 unfold Bb at h;exact Prod.ext (by simp only at h;omega) (by simp only at h;omega)
theorem cW7{s t:Sg}(hs:bI s)(ht:bI t)(hd:xD s t=0)(he:s.1=s.2):bT6 s t (dG s t):=by
 have hcom:∀p,Com s t p↔p=s.1/\eX t s.1:=by
  intro p;constructor
  ·rintro⟨h1,h2⟩
   have h3:p=s.1:=cD2 (u:=s.1) (by have:=((gZ hs).1 h1).1;unfold Bb at*;rw[<-he]at this;exact this)
   exact⟨h3,h3▸h2⟩
  ·rintro⟨rfl,h⟩
   exact⟨rH hs,h⟩
 have hB:xB s t=0:=by unfold xB;rw[<-he];unfold X dif;simp
 have hcr:¬zT9 s t:=by rw[wY hs ht,hB,hd];omega
 have hk:dG s t=open Classical in if eX t s.1 then 1 else 0:=by
  obtain⟨e1,_,_⟩:=aM8 hs ht;unfold dG kQ;rw[if_neg (by rintro(h|h)<;>exact h Ag),if_neg Ja]
  by_cases h:eX t s.1
  ·rw[if_pos ⟨he,h⟩,if_pos h];rfl
  ·rw[if_neg (fun q=>h q.2),if_neg h,if_neg,if_pos (.inl he)]
   ·rfl
   ·rintro⟨h1,h2⟩
    have h3:t.1=s.1:=cD2 (u:=s.1) (by have:=((gZ hs).1 h2).1;unfold Bb at*;rw[<-he]at this;exact this)
    exact h (h3▸rH ht)
 rw[hk];by_cases h:eX t s.1
 ·rw[if_pos h]
  refine⟨⟨fun h=>Ah,?_⟩,⟨fun _=> .inl rfl,fun _=>⟨s.1, .inl rfl,(hcom _).2 ⟨rfl,h⟩⟩⟩,⟨fun h=>Ah,fun h=>absurd h.2 hcr⟩⟩;rintro⟨p,q,_,_,hne,h1,h2⟩;exact TJ
 ·exact L9
theorem dA9{s t:Sg}(hs:bI s)(ht:bI t)(hd:xD s t=0)(hne:s.1≠s.2)(he:t.1=t.2):bT6 s t (dG s t):=by
 have hcom:∀p,Com s t p↔p=t.1/\eX s t.1:=by
  intro p;constructor
  ·rintro⟨h1,h2⟩
   have h3:p=t.1:=cD2 (u:=t.1) (by have:=((gZ ht).1 h2).1;unfold Bb at*;rw[<-he]at this;exact this)
   exact⟨h3,h3▸h1⟩
  ·rintro⟨rfl,h⟩
   exact⟨h,rH ht⟩
 have hA:xA s t=0:=by unfold xA;rw[<-he];unfold X dif;simp
 have hcr:¬zT9 s t:=by rw[wY hs ht,hA,hd];omega
 have hk:dG s t=open Classical in if eX s t.1 then 1 else 0:=by
  obtain⟨e1,_,_⟩:=aM8 hs ht;unfold dG kQ;rw[if_neg (by rintro(h|h)<;>exact h Ag),if_neg Ja,if_neg (fun q=>hne q.1)]
  by_cases h:eX s t.1
  ·rw[if_pos ⟨he,h⟩,if_pos h];rfl
  ·rw[if_neg (fun q=>h q.2),if_neg h,if_pos (.inr (.inl he))]
   rfl
 rw[hk];by_cases h:eX s t.1
 ·rw[if_pos h]
  refine⟨⟨fun h=>Ah,?_⟩,⟨fun _=> .inl rfl,fun _=>⟨t.1, .inr (.inr (.inl rfl)),(hcom _).2 ⟨rfl,h⟩⟩⟩,⟨fun h=>Ah,fun h=>absurd h.2 hcr⟩⟩;rintro⟨p,q,_,_,hne,h1,h2⟩;exact TJ
 ·exact L9
theorem bZ7{a b:Vc}(h:a≠b):dif b a≠(0,0):=by
 intro e;have e1:b.1-a.1=0:=congrArg Prod.fst e;have e2:b.2-a.2=0:=congrArg Prod.snd e
 exact h (Prod.ext Aa Aa)
theorem dR9{s t:Sg}(hs:bI s)(ht:bI t)(hd:xD s t=0)(h1:s.1≠s.2)(h2:t.1≠t.2)(hB:xB s t≠0):bT6 s t (dG s t):=by
 obtain⟨a,b⟩:=jP.1 hs;obtain⟨c,d⟩:=jP.1 ht;obtain⟨x1,x2,x3,x4⟩:=vK s t
 have hno:∀p,¬Com s t p:=by
  rintro p ⟨q1,q2⟩;have a1:=((gZ hs).1 q1).2;have b1:=((gZ ht).1 q2).2
  have e1:X (dif s.2 s.1) (dif p t.1)=0:=aL3 (w:=dif t.2 t.1) hd (by unfold X at*;rw[Int.mul_comm,Int.mul_comm (dif p t.1).2];omega) (bZ7 h2)
  apply hB;have e2:X (dif s.2 s.1) (dif t.1 s.1)=X (dif s.2 s.1) (dif p s.1)-X (dif s.2 s.1) (dif p t.1):=CJ;rw[x1,a1,e1]at e2;omega
 have hcr:¬zT9 s t:=by rw[wY hs ht,hd];omega
 have hk:dG s t=0:=by
  obtain⟨e1,_,_⟩:=aM8 hs ht;unfold dG kQ;rw[if_neg (by rintro(h|h)<;>exact h Ag),if_neg Ja,if_neg (fun q=>h1 q.1),if_neg (fun q=>h2 q.1),if_pos (.inr (.inr (by rw[zH a b c,x1,tC];omega)))]
  rfl
 rw[hk];refine⟨⟨fun h=>Ah,?_⟩,⟨?_,fun h=>GY⟩,⟨fun h=>Ah,fun h=>absurd h.2 hcr⟩⟩
 ·rintro⟨p,q,_,_,hne,h1,h2⟩
  exact absurd h1 (hno p)
 ·rintro⟨p,_,h1⟩
  exact absurd h1 (hno p)
def co(w p:Vc):Int:=if w.2≠0 then p.2 else p.1
def onL(w o p:Vc):Prop:=X w (dif p o)=0
theorem xR{w o p q:Vc}(hp:onL w o p)(hq:onL w o q):w.1*(p.2-q.2)=w.2*(p.1-q.1):=by
 unfold onL X dif at*;simp only at*;grind
theorem bX1{w o p q:Vc}(hw:w≠(0,0))(hp:onL w o p)(hq:onL w o q)(h:co w p=co w q):p=q:=by
 have e:=xR hp hq;unfold co at h;by_cases h2:w.2=0
 ·rw[if_neg I7,if_neg I7]at h
  have h1:w.1≠0:=fun h'=>hw (Prod.ext h' h2);rw[h2,Int.zero_mul]at e;rcases Int.mul_eq_zero.1 e with e|e
  ·exact absurd e h1
  ·exact Prod.ext h Aa
 ·rw[if_pos h2,if_pos h2]at h
  rw[show p.2-q.2=0 from Aa,Int.mul_zero]at e;rcases Int.mul_eq_zero.1 e.symm with e|e
  ·exact absurd e h2
  ·exact Prod.ext Aa h
theorem aZ9{w o p q:Vc}(hw:w≠(0,0))(hp:onL w o p)(hq:onL w o q):kF p q↔co w p<co w q:=by
 rw[aG2];have e:=xR hp hq;unfold co;by_cases h2:w.2=0
 ·rw[if_neg I7,if_neg I7]
  have h1:w.1≠0:=fun h'=>hw (Prod.ext h' h2);rw[h2,Int.zero_mul]at e;rcases Int.mul_eq_zero.1 e with e|e
  ·exact absurd e h1
  ·omega
 ·rw[if_pos h2,if_pos h2]
  constructor
  ·rintro(h|⟨h,h'⟩)
   ·exact h
   ·rw[show p.2-q.2=0 from Aa,Int.mul_zero]at e
    rcases Int.mul_eq_zero.1 e.symm with e|e
    ·exact absurd e h2
    ·omega
  ·exact fun h=> .inl h
theorem dE8{w o p q r:Vc}(hw:w≠(0,0))(hp:onL w o p)(hq:onL w o q)(hr:onL w o r):Bb (p,q) r↔min (co w p) (co w q)<=co w r/\co w r<=max (co w p) (co w q):=by
 have e1:=xR hr hp;have e2:=xR hq hp
 unfold Bb;simp only;by_cases h2:w.2=0
 ·have h1:w.1≠0:=fun h'=>hw (Prod.ext h' h2)
  unfold co;rw[if_neg I7,if_neg I7,if_neg I7];rw[h2,Int.zero_mul]at e1 e2;rcases Int.mul_eq_zero.1 e1 with e1|e1
  ·exact absurd e1 h1
  ·rcases Int.mul_eq_zero.1 e2 with e2|e2
   ·exact absurd e2 h1
   ·omega
 ·unfold co
  rw[if_pos h2,if_pos h2,if_pos h2];constructor
  ·rintro⟨_,_,h3,h4⟩;exact⟨h3,h4⟩
  ·rintro⟨h3,h4⟩
   have hx:(q.2-p.2)*(r.1-p.1)=(r.2-p.2)*(q.1-p.1):=by
    have:w.2*((q.2-p.2)*(r.1-p.1)- (r.2-p.2)*(q.1-p.1))=0:=BV;rcases Int.mul_eq_zero.1 this with h|h
    ·exact absurd h h2
    ·omega
   rcases Int.lt_trichotomy p.2 q.2 with hlt|heq|hgt
   ·obtain⟨g1,g2⟩:=share (d:=q.2-p.2) (k:=r.2-p.2) (u:=p.1) (v:=q.1) (p:=r.1) Aa hx Aa Aa
    exact⟨g1,g2,h3,h4⟩
   ·have hpq:p=q:=bX1 hw hp hq (by unfold co;rw[if_pos h2,if_pos h2];exact heq)
    have hrp:r=p:=bX1 hw hr hp (by unfold co;rw[if_pos h2,if_pos h2];omega)
    subst hrp;subst hpq;omega
   ·obtain⟨g1,g2⟩:=share (d:=p.2-q.2) (k:=p.2-r.2) (u:=p.1) (v:=q.1) (p:=r.1) Aa (by
     have a1:(p.2-q.2)*(r.1-p.1)= -((q.2-p.2)*(r.1-p.1)):=by rw[<-Int.neg_mul];congr 1;omega
     have a2:(p.2-r.2)*(q.1-p.1)= -((r.2-p.2)*(q.1-p.1)):=by rw[<-Int.neg_mul];congr 1;omega
     rw[a1,a2,hx]) Aa Aa
    exact⟨g1,g2,h3,h4⟩
theorem bS9{a b:Vc}:vcmp a b=0↔a=b:=by
 constructor
 ·intro h
  unfold vcmp orI cmpI at h
  have h2:a.2=b.2/\a.1=b.1:=by
   split at h<;>(try split at h)<;>(try split at h)<;>(try split at h)<;>(try split at h)<;>omega
  exact Prod.ext h2.2 h2.1
 ·rintro rfl
  unfold vcmp orI cmpI;simp
theorem dD9{a b:Vc}:vcmp a b= -1↔kF a b:=by
 unfold kF;rcases gC8 a b with h|h|h<;>omega
theorem cE8{A B C D lo hi:Int}(h1:lo=max (min A B) (min C D))(h2:hi=min (max A B) (max C D))(x:Int):((min A B<=x/\x<=max A B)/\(min C D<=x/\x<=max C D))↔lo<=x/\x<=hi:=by
 constructor
 ·rintro⟨⟨a,b⟩,c,d⟩;omega
 ·rintro⟨a,b⟩;omega
theorem eN9{A B C D lo:Int}(h1:lo=max (min A B) (min C D)):lo=A\/lo=B\/lo=C\/lo=D:=Aa
theorem eL9{A B C D hi:Int}(h1:hi=min (max A B) (max C D)):hi=A\/hi=B\/hi=C\/hi=D:=Aa
theorem eA6{s t:Sg}(hs:bI s)(ht:bI t)(hd:xD s t=0)(h1:s.1≠s.2)(h2:t.1≠t.2)(hB:xB s t=0):bT6 s t (dG s t):=by
 obtain⟨a,b⟩:=jP.1 hs;obtain⟨c,d⟩:=jP.1 ht;obtain⟨x1,x2,x3,x4⟩:=vK s t;have hw:=bZ7 h1;have la:onL (dif s.2 s.1) s.1 s.1:=by unfold onL X dif;simp
 have lb:onL (dif s.2 s.1) s.1 s.2:=F7;have lc:onL (dif s.2 s.1) s.1 t.1:=by unfold onL;rw[x1,hB];rfl
 have ld:onL (dif s.2 s.1) s.1 t.2:=by unfold onL;rw[x2,hB,hd];rfl
 have lall:∀p,uH s t p->onL (dif s.2 s.1) s.1 p:=by
  rintro p (rfl|rfl|rfl|rfl)<;>assumption
 have lt':∀p,onL (dif s.2 s.1) s.1 p->X (dif t.2 t.1) (dif p t.1)=0:=fun p hp=>Lp
 have hf:∀p,onL (dif s.2 s.1) s.1 p->(Com s t p↔(min (co (dif s.2 s.1) s.1) (co (dif s.2 s.1) s.2)<=co (dif s.2 s.1) p/\co (dif s.2 s.1) p<=max (co (dif s.2 s.1) s.1) (co (dif s.2 s.1) s.2))/\
  (min (co (dif s.2 s.1) t.1) (co (dif s.2 s.1) t.2)<=co (dif s.2 s.1) p/\co (dif s.2 s.1) p<=max (co (dif s.2 s.1) t.1) (co (dif s.2 s.1) t.2))):=fun p hp=>by
  exact QG
 have hcr:¬zT9 s t:=by rw[wY hs ht,hB,hd];omega
 have hord:∀(q:Sg),onL (dif s.2 s.1) s.1 q.1->onL (dif s.2 s.1) s.1 q.2->onL (dif s.2 s.1) s.1 (ordS q).1/\onL (dif s.2 s.1) s.1 (ordS q).2/\co (dif s.2 s.1) (ordS q).1=min (co (dif s.2 s.1) q.1) (co (dif s.2 s.1) q.2)/\co (dif s.2 s.1) (ordS q).2=max (co (dif s.2 s.1) q.1) (co (dif s.2 s.1) q.2):=fun q g1 g2=>by
  have k:=aZ9 hw g2 g1;by_cases hv:kF q.2 q.1
  ·rw[cZ7 hv]
   have:=k.1 hv;exact⟨g2,g1,Ai,Ai⟩
  ·rw[cY4 hv]
   have:¬co (dif s.2 s.1) q.2<co (dif s.2 s.1) q.1:=fun h=>hv (k.2 h);exact⟨g1,g2,Aa,Aa⟩
 obtain⟨s1,s2,s3,s4⟩:=hord s la lb;obtain⟨t1,t2,t3,t4⟩:=hord t lc ld
 have hlo:onL (dif s.2 s.1) s.1 (hiLo (ordS s) (ordS t)).1/\onL (dif s.2 s.1) s.1 (hiLo (ordS s) (ordS t)).2/\co (dif s.2 s.1) (hiLo (ordS s) (ordS t)).1=max (co (dif s.2 s.1) (ordS s).1) (co (dif s.2 s.1) (ordS t).1)/\co (dif s.2 s.1) (hiLo (ordS s) (ordS t)).2=min (co (dif s.2 s.1) (ordS s).2) (co (dif s.2 s.1) (ordS t).2):=by
  have k1:=aZ9 hw s1 t1;have k2:=aZ9 hw t2 s2
  unfold hiLo;simp only;refine⟨?_,?_,?_,?_⟩
  ·split<;>assumption
  ·split<;>assumption
  ·split
   ·rename_i h;have:=k1.1 h;omega
   ·rename_i h
    have:¬co (dif s.2 s.1) (ordS s).1<co (dif s.2 s.1) (ordS t).1:=fun q=>h (k1.2 q);omega
  ·split
   ·rename_i h;have:=k2.1 h;omega
   ·rename_i h
    have:¬co (dif s.2 s.1) (ordS t).2<co (dif s.2 s.1) (ordS s).2:=fun q=>h (k2.2 q);omega
 have hk:dG s t=(yD (hiLo (ordS s) (ordS t))).kind:=by
  obtain⟨e1,_,_⟩:=aM8 hs ht;unfold dG kQ;rw[if_neg (by rintro(h|h)<;>exact h Ag),if_neg Ja,if_neg (fun q=>h1 q.1),if_neg (fun q=>h2 q.1),if_neg]
  rintro(h|h|h)
  ·exact h1 h
  ·exact h2 h
  ·exact h (by rw[zH a b c,x1,hB];rfl)
 obtain⟨l1,l2,l3,l4⟩:=hlo;rw[s3,t3]at l3;rw[s4,t4]at l4
 have hkind:(co (dif s.2 s.1) (hiLo (ordS s) (ordS t)).1=co (dif s.2 s.1) (hiLo (ordS s) (ordS t)).2/\dG s t=1)\/(co (dif s.2 s.1) (hiLo (ordS s) (ordS t)).1<co (dif s.2 s.1) (hiLo (ordS s) (ordS t)).2/\dG s t=3)\/(co (dif s.2 s.1) (hiLo (ordS s) (ordS t)).2<co (dif s.2 s.1) (hiLo (ordS s) (ordS t)).1/\dG s t=0):=by
  rw[hk];generalize hiLo (ordS s) (ordS t)=q at*;have k:=aZ9 hw l1 l2;unfold yD;by_cases g0:vcmp q.1 q.2=0
  ·rw[if_pos g0]
   left;exact⟨by rw[bS9.1 g0],rfl⟩
  ·rw[if_neg g0]
   have hne:co (dif s.2 s.1) q.1≠co (dif s.2 s.1) q.2:=fun h=>g0 (bS9.2 (bX1 hw l1 l2 h));by_cases g1:vcmp q.1 q.2= -1
   ·rw[if_pos g1]
    right;left;exact⟨k.1 (dD9.1 g1),rfl⟩
   ·rw[if_neg g1]
    right;right;have:¬co (dif s.2 s.1) q.1<co (dif s.2 s.1) q.2:=fun h=>g1 (dD9.2 (k.2 h));exact⟨Aa,rfl⟩
 have hlohi:=cE8 (A:=co (dif s.2 s.1) s.1) (B:=co (dif s.2 s.1) s.2) (C:=co (dif s.2 s.1) t.1) (D:=co (dif s.2 s.1) t.2) l3 l4;have hp1:=eN9 (A:=co (dif s.2 s.1) s.1) (B:=co (dif s.2 s.1) s.2) (C:=co (dif s.2 s.1) t.1) (D:=co (dif s.2 s.1) t.2) l3
 have hp2:=eL9 (A:=co (dif s.2 s.1) s.1) (B:=co (dif s.2 s.1) s.2) (C:=co (dif s.2 s.1) t.1) (D:=co (dif s.2 s.1) t.2) l4;have hf2:∀p,onL (dif s.2 s.1) s.1 p->(Com s t p↔co (dif s.2 s.1) (hiLo (ordS s) (ordS t)).1<=co (dif s.2 s.1) p/\co (dif s.2 s.1) p<=co (dif s.2 s.1) (hiLo (ordS s) (ordS t)).2):=fun p hp=>(hf p hp).trans (hlohi _)
 clear hf hlohi l3 l4 s3 s4 t3 t4 hord hk lt';generalize co (dif s.2 s.1) (hiLo (ordS s) (ordS t)).1=lo at*;generalize co (dif s.2 s.1) (hiLo (ordS s) (ordS t)).2=hi at*
 have pick:∀z:Int,(z=co (dif s.2 s.1) s.1\/z=co (dif s.2 s.1) s.2\/z=co (dif s.2 s.1) t.1\/z=co (dif s.2 s.1) t.2)->∃p,uH s t p/\co (dif s.2 s.1) p=z:=by
  rintro z (h|h|h|h)
  ·exact⟨_, .inl rfl,h.symm⟩
  ·exact⟨_, .inr (.inl rfl),h.symm⟩
  ·exact⟨_, .inr (.inr (.inl rfl)),h.symm⟩
  ·exact⟨_, .inr (.inr (.inr rfl)),h.symm⟩
 obtain⟨pl,pl1,pl2⟩:=pick _ hp1;obtain⟨ph,ph1,ph2⟩:=pick _ hp2;have fl:=hf2 _ (lall _ pl1);have fh:=hf2 _ (lall _ ph1)
 rw[pl2]at fl;rw[ph2]at fh
 have hsome:(∃p,uH s t p/\Com s t p)↔dG s t=1\/dG s t=3:=by
  constructor
  ·rintro⟨p,g1,g2⟩
   have:=(hf2 _ (lall _ g1)).1 g2;omega
  ·intro h
   exact⟨pl,pl1,fl.2 Aa⟩
 refine⟨⟨fun h=>?_,?_⟩,hsome,⟨fun h=>Aa,fun h=>absurd h.2 hcr⟩⟩
 ·refine⟨pl,ph,pl1,ph1,fun e=>?_,fl.2 Aa,fh.2 Aa⟩
  rw[e]at pl2;omega
 ·rintro⟨p,q,g1,g2,g3,g4,g5⟩
  have k1:=(hf2 _ (lall _ g1)).1 g4;have k2:=(hf2 _ (lall _ g2)).1 g5
  have k3:co (dif s.2 s.1) p≠co (dif s.2 s.1) q:=fun e=>g3 (bX1 hw (lall _ g1) (lall _ g2) e);omega
theorem tells{s t:Sg}(hs:bI s)(ht:bI t):bT6 s t (dG s t):=by
 by_cases hd:xD s t=0
 ·by_cases h1:s.1=s.2
  ·exact cW7 hs ht hd h1
  ·by_cases h2:t.1=t.2
   ·exact dA9 hs ht hd h1 h2
   ·by_cases hB:xB s t=0
    ·exact eA6 hs ht hd h1 h2 hB
    ·exact dR9 hs ht hd h1 h2 hB
 ·exact eK8 hs ht hd
def wR(a b c d:Int)(p:Vc):Prop:=a<p.1/\p.1<c/\b<p.2/\p.2<d
def wP(a b c d:Int)(p:Vc):Prop:=a<=p.1/\p.1<=c/\b<=p.2/\p.2<=d
theorem bJ0{p v:Vc}(h1:Sm4 p)(h2:Sm4 v):toP (p.1,p.2,1) v=dif p v:=by
 unfold Sm4 at*;unfold toP dif;simp only[Int.mul_one];rw[w_in (n:=v.1) Aa,w_in (n:=v.2) Aa,w_in Aa,w_in Aa]
theorem dF8{p:Vc}{e:Sg}(h1:Sm4 p)(he:bI e):bV4 (p.1,p.2,1) e=X (dif e.2 e.1) (dif p e.1):=by
 obtain⟨a,b⟩:=jP.1 he;unfold bV4;rw[bJ0 h1 a];unfold Sm4 at*;rw[kN ⟨Aa,Aa⟩ ⟨Aa,Aa⟩];unfold dif;rw[iK ⟨Ai,Ai⟩ ⟨Ai,Ai⟩ ⟨Ai,Ai⟩ ⟨Ai,Ai⟩];rfl
theorem cC3{p:Vc}{e:Sg}(h1:Sm4 p)(he:bI e):onE (p.1,p.2,1) e↔eX e p:=by
 obtain⟨a,b⟩:=jP.1 he;rw[gZ he];unfold onE;rw[dF8 h1 he,bJ0 h1 a,bJ0 h1 b];unfold Bb dif;simp only;constructor
 ·rintro⟨q1,q2,q3,q4,q5⟩
  exact⟨⟨Aa,Aa,Aa,Aa⟩,q1⟩
 ·rintro⟨⟨q2,q3,q4,q5⟩,q1⟩
  exact⟨q1,Aa,Aa,Aa,Aa⟩
def rayC(e:Sg)(p:Vc)(z:Int):Prop:=(e.1.2<=p.2/\p.2<e.2.2/\0<z)\/(e.2.2<=p.2/\p.2<e.1.2/\z<0)
theorem dD7{p:Vc}{e:Sg}(h1:Sm4 p)(he:bI e)(hn:¬eX e p):rW (p.1,p.2,1) e↔rayC e p (X (dif e.2 e.1) (dif p e.1)):=by
 obtain⟨a,b⟩:=jP.1 he;rw[gZ he]at hn;unfold rW;rw[dF8 h1 he,bJ0 h1 a,bJ0 h1 b]
 have hz:e.2.2<=p.2->p.2<e.1.2->X (dif e.2 e.1) (dif p e.1)≠0:=by
  intro g1 g2 g3;apply hn;refine⟨?_,g3⟩;unfold X dif at g3;simp only at g3;obtain⟨k1,k2⟩:=share (d:=e.1.2-e.2.2) (k:=e.1.2-p.2) (u:=e.1.1) (v:=e.2.1) (p:=p.1) Aa BV Aa Aa;unfold Bb;omega
 generalize X (dif e.2 e.1) (dif p e.1)=z at*;unfold rayC dif;simp only;constructor
 ·rintro⟨q1,q2⟩
  by_cases c1:0<=p.2-e.1.2
  ·have c2:¬0<=p.2-e.2.2:=fun c2=>q1 ⟨fun _=>c2,fun _=>c1⟩
   exact .inl ⟨Aa,Aa,q2.1 c1⟩
  ·have c2:0<=p.2-e.2.2:=by
    by_cases c2:0<=p.2-e.2.2
    ·exact c2
    ·exact absurd ⟨fun h=>absurd h c1,fun h=>absurd h c2⟩ q1
   have hz':=hz Aa Aa;have:¬0<z:=fun h=>c1 (q2.2 h)
   exact .inr ⟨Aa,Aa,Aa⟩
 ·rintro(⟨q1,q2,q3⟩|⟨q1,q2,q3⟩)
  ·exact⟨fun h=>by have:=h.1 (by omega);omega,fun _=>q3,fun _=>Aa⟩
  ·exact⟨fun h=>by have:=h.2 (by omega);omega,fun h=>Aa,fun h=>Aa⟩
theorem pY{v:Vc}:within v 4000↔Sm4 v:=by
 rw[within_iff Aa];exact Iff.rfl
theorem bC7{p:Vc}(h:Sm4 p):wJ (p.1,p.2,1):=by
 unfold Sm4 at h;refine⟨⟨(by decide:(1:Int)<=1),(by decide:(1:Int)<=134217728),?_⟩,gcd_one _⟩
 show within (p.1,p.2) (W (4000*1));rw[show W (4000*1)=4000 from Aq];exact pY.2 h
theorem aE1{r:Rg}{i:Nat}(h:i<r.length):r.getD i z0∈r:=OD
theorem bA6{r:Rg}{i:Nat}(h:i<r.length):iU r i∈r:=aE1 (Nat.mod_lt _ Aa)
theorem jO{r:Rg}(hn:bR7 r){e:Sg}(he:e∈bF r):bI e:=by
 unfold bF at he;split at he
 ·cases he
 ·obtain⟨i,hi,rfl⟩:=List.mem_map.1 he
  have hi':=List.mem_range.1 hi;have h1:=hn _ (aE1 hi')
  have h2:=hn _ (bA6 hi');rw[within_iff Aa]at h1 h2;refine jP.2 ⟨?_,?_⟩
  ·show Sm4 (r.getD i z0);unfold Sm4;omega
  ·show Sm4 (iU r i);unfold Sm4;omega
theorem bC8{r:Rg}(h3:3<=r.length){v:Vc}(hv:v∈r):∃e∈bF r,e.1=v:=by
 obtain⟨i,hi,he⟩:=List.mem_iff_getElem.1 hv;refine⟨aJ4 r i,?_,?_⟩
 ·unfold bF
  rw[if_neg Aa];exact List.mem_map_of_mem (List.mem_range.2 hi)
 ·show r.getD i z0=v
  rw[List.getD_eq_getElem?_getD,List.getElem?_eq_getElem hi,he];rfl
theorem yZ{p:Pt}:∀ {l:List Sg} {b:Bool},lU p l b=1↔∃e∈l,onE p e
 | [],b=>by rw[qB];cases b<;>simp
 |e::l,b=>by
  by_cases h:onE p e
  ·rw[oP h]
   exact⟨fun _=>⟨e,Af,h⟩,fun _=>rfl⟩
  ·by_cases h2:rW p e
   ·rw[rE h h2,yZ]
    constructor
    ·rintro⟨x,hx,q⟩;exact⟨x,Bq,q⟩
    ·rintro⟨x,hx,q⟩
     exact Td
   ·rw[jD h h2,yZ]
    constructor
    ·rintro⟨x,hx,q⟩;exact⟨x,Bq,q⟩
    ·rintro⟨x,hx,q⟩
     exact Td
end Go.Proofs.Led
