/-
  The inventory: all that is left of a stock.
-/
import Derived.Test.YtkhhdojgbkophaaGreatDoorB5
set_option linter.unusedVariables false
set_option linter.unusedSimpArgs false
set_option maxRecDepth 100000
set_option maxHeartbeats 4000000
noncomputable section
namespace Go.Proofs.Led
open Go Go.Proofs Go.Ab
def kP(b:Bool)(p q:Rest):Prop:=
 if b=true then max p.lo q.lo<min p.hi q.hi
 else max p.box.1.1 q.box.1.1<min p.box.2.1 q.box.2.1/\max p.box.1.2 q.box.1.2<min p.box.2.2 q.box.2.2
def cZ(x:aN):List Rest->List Rest->Int
 |_,[] =>0
 |D,r::R=>open Classical in if iG x r≠0 then iG x r else if∃q∈D,kP x.isBar q r then 12 else cZ x (D++[r]) R
def eG(x:aN)(l:List Rest):List aN:=if cZ x [] l=0 then l.map (dZ x)else []
def cP9(x:aN)(e:Event)(D:List Rest):St:=match D with
 | [] =>mkSt [(2, .fp (gB x)),(3, .box 3 0),(6,nilV),(12, .sl (e.rests.map bY)),(13,I e.rests.length),(14,I 0)] [(3,iJ e)] []
 |d::D=>mkSt [(2, .fp (gB x)),(3, .box 3 0),(6, .arr 37 D.length),(12, .sl (e.rests.map bY)),(13,I e.rests.length),(14,I ((D.length:Int)+1))] [(3,iJ e)]
  [(37,⟨D.length, .own,87,((d::D).map (dZ x)).map aQ⟩)]
def Sm(n:Int):Prop:= -10000<=n/\n<=10000
theorem vG{a b:Int}(ha:Sm a)(hb:Sm b): -100000000<=a*b/\a*b<=100000000:=by
 have h:(a*b).natAbs<=10000*10000:=by
  rw[Int.natAbs_mul];unfold Sm at*;exact Nat.mul_le_mul Aa Aa
 omega
theorem kN{a b:Vc}(h1:Sm (a.1-b.1))(h2:Sm (a.2-b.2)):vsub a b=(a.1-b.1,a.2-b.2):=by
 unfold Sm at*;unfold vsub;rw[w_in Aa,w_in Aa]
theorem iK{a b:Vc}(h1:Sm a.1)(h2:Sm a.2)(h3:Sm b.1)(h4:Sm b.2):bZ a b=a.1*b.2-a.2*b.1:=by
 have q1:=vG h1 h4;have q2:=vG h2 h3
 unfold bZ;rw[w_in (n:=a.1*b.2) Aa,w_in (n:=a.2*b.1) Aa,w_in Aa]
theorem tC{n:Int}:cmpI n 0≠0↔n≠0:=by
 unfold cmpI;split
 ·constructor<;>intro _<;>omega
 ·split
  ·constructor<;>intro _<;>omega
  ·constructor<;>intro h
   ·exact absurd rfl h
   ·omega
def rr(a b c d:Int):Rg:=[(a,b),(c,b),(c,d),(a,d)]
structure RB(a b c d:Int):Prop where
 x0:0<=a
 x1:a<c
 x2:c<=1900
 y0:0<=b
 y1:b<d
 y2:d<=1900
def On19(v:Vc):Prop:=0<=v.1/\v.1<=1900/\0<=v.2/\v.2<=1900
def rS(a b c d:Int):Sh:=⟨rr a b c d,[]⟩
theorem aG2{x m:Vc}:kF x m↔x.2<m.2\/(x.2=m.2/\x.1<m.1):=by
 unfold kF vcmp orI cmpI;split<;>(try split)<;>(try split)<;>(try split)<;>(try split)<;>omega
theorem gcd_one(n:Int):divisor n 1=1:=by
 have h:gcdI n 1=1:=by
  rw[gcdI,dif_neg Aj];have:n.tmod 1=0:=Int.tmod_one n;rw[this,gcdI,dif_pos rfl]
 unfold divisor;rw[h];decide
def Sm4(v:Vc):Prop:= -4000<=v.1/\v.1<=4000/\-4000<=v.2/\v.2<=4000
theorem within_iff{v:Vc}{m:Int}(hm:0<=m/\m<=1000000):within v m↔-m<=v.1/\v.1<=m/\-m<=v.2/\v.2<=m:=by
 unfold within;rw[w_in (n:=0-m) Aa];omega
theorem jP{s:Sg}:bI s↔Sm4 s.1/\Sm4 s.2:=by
 unfold bI;rw[within_iff Aa,within_iff Aa];exact Iff.rfl
def X(u v:Vc):Int:=u.1*v.2-u.2*v.1
def dif(u v:Vc):Vc:=(u.1-v.1,u.2-v.2)
theorem xU{p q r s:Vc}(h1:Sm4 p)(h2:Sm4 q)(h3:Sm4 r)(h4:Sm4 s):bZ (vsub p q) (vsub r s)=X (dif p q) (dif r s):=by
 unfold Sm4 at*;rw[kN ⟨Aa,Aa⟩ ⟨Aa,Aa⟩,kN ⟨Aa,Aa⟩ ⟨Aa,Aa⟩,iK ⟨A8,A8⟩ ⟨A8,A8⟩ ⟨A8,A8⟩ ⟨A8,A8⟩];rfl
theorem X_bd{p q r s:Vc}(h1:Sm4 p)(h2:Sm4 q)(h3:Sm4 r)(h4:Sm4 s): -200000000<=X (dif p q) (dif r s)/\X (dif p q) (dif r s)<=200000000:=by
 unfold Sm4 at*;unfold X dif;simp only;have q1:=vG (a:=p.1-q.1) (b:=r.2-s.2) ⟨Aa,Aa⟩ ⟨Aa,Aa⟩;have q2:=vG (a:=p.2-q.2) (b:=r.1-s.1) ⟨Aa,Aa⟩ ⟨Aa,Aa⟩
 omega
def xD(s t:Sg):Int:=X (dif s.2 s.1) (dif t.2 t.1)
def xA(s t:Sg):Int:=X (dif t.1 s.1) (dif t.2 t.1)
def xB(s t:Sg):Int:=X (dif t.1 s.1) (dif s.2 s.1)
theorem aM8{s t:Sg}(hs:bI s)(ht:bI t):jC s t=xD s t/\lX s t=xA s t/\lS s t=xB s t:=by
 obtain⟨a,b⟩:=jP.1 hs;obtain⟨c,d⟩:=jP.1 ht;exact⟨xU b a d c,xU c a d c,xU c a b a⟩
theorem bd_D{s t:Sg}(hs:bI s)(ht:bI t):(-200000000<=xD s t/\xD s t<=200000000)/\(-200000000<=xA s t/\xA s t<=200000000)/\(-200000000<=xB s t/\xB s t<=200000000):=by
 obtain⟨a,b⟩:=jP.1 hs;obtain⟨c,d⟩:=jP.1 ht;exact⟨X_bd b a d c,X_bd c a d c,X_bd c a b a⟩
def Bb(s:Sg)(p:Vc):Prop:=min s.1.1 s.2.1<=p.1/\p.1<=max s.1.1 s.2.1/\min s.1.2 s.2.2<=p.2/\p.2<=max s.1.2 s.2.2
theorem eY3(s:Sg)(p:Vc):bJ8 (aC7 [s.1,s.2]).1 p↔Bb s p:=by
 have hb:(aC7 [s.1,s.2]).1=((min s.1.1 s.2.1,min s.1.2 s.2.2),(max s.1.1 s.2.1,max s.1.2 s.2.2)):=by
  show gU (gU (s.1,s.1) s.1) s.2=_;simp only[gU];refine Prod.ext (Prod.ext ?_ ?_) (Prod.ext ?_ ?_)<;>simp only<;>omega
 rw[hb];unfold bJ8 Bb;simp only
theorem eU4{s:Sg}{p:Vc}(hs:bI s)(h:Bb s p):Sm4 p:=by
 obtain⟨a,b⟩:=jP.1 hs;unfold Sm4 Bb at*;omega
theorem gZ{s:Sg}{p:Vc}(hs:bI s):eX s p↔Bb s p/\X (dif s.2 s.1) (dif p s.1)=0:=by
 obtain⟨a,b⟩:=jP.1 hs;unfold eX;rw[eY3];constructor
 ·rintro⟨_,h1,h2⟩
  refine⟨h1,?_⟩;unfold kR at h2;rw[xU b a (eU4 hs h1) a]at h2;by_cases hz:X (dif s.2 s.1) (dif p s.1)=0
  ·exact hz
  ·exact absurd h2 (tC.2 hz)
 ·rintro⟨h1,h2⟩
  refine⟨hs,h1,?_⟩;unfold kR;rw[xU b a (eU4 hs h1) a,h2];rfl
theorem zH{a b c:Vc}(h1:Sm4 a)(h2:Sm4 b)(h3:Sm4 c):kR a b c=cmpI (X (dif b a) (dif c a)) 0:=by
 unfold kR;rw[xU h2 h1 h3 h1]
def uJ(a b d:Int):Int:=if a<0\/d<a\/b<0\/d<b then 0 else if a=0\/a=d\/b=0\/b=d then 1 else 2
theorem dI7{s t:Sg}(hs:bI s)(ht:bI t)(hd:xD s t≠0):dG s t=if xD s t<0 then uJ (0-xA s t) (0-xB s t) (0-xD s t)else uJ (xA s t) (xB s t) (xD s t):=by
 obtain⟨e1,e2,e3⟩:=aM8 hs ht;obtain⟨b1,b2,b3⟩:=bd_D hs ht;unfold dG kQ;rw[if_neg (by rintro(h|h)<;>exact h Af),if_pos (by rw[e1];exact hd)]
 unfold lines;rw[e1,e2,e3];unfold turned;by_cases hn:xD s t<0
 ·rw[if_pos hn,if_pos hn,w_in (n:=0-xA s t) Aa,w_in (n:=0-xB s t) Aa,w_in (n:=0-xD s t) Aa]
  simp only;unfold uJ;split
  ·rfl
  ·rfl
 ·rw[if_neg hn,if_neg hn]
  simp only;unfold uJ;split
  ·rfl
  ·rfl
theorem share{d k u v p:Int}(hd:0<d)(h:d*(p-u)=k*(v-u))(h0:0<=k)(h1:k<=d):min u v<=p/\p<=max u v:=by
 rcases Int.lt_trichotomy u v with huv|huv|huv
 ·have e1:0<=k*(v-u):=Int.mul_nonneg h0 Aa
  have e2:k*(v-u)<=d*(v-u):=Int.mul_le_mul_of_nonneg_right h1 Aa
  have f1:0<=p-u:=by
   by_cases hq:0<=p-u
   ·exact hq
   ·have:=Int.mul_neg_of_pos_of_neg hd (show p-u<0 from Aa);omega
  have f2:p-u<=v-u:=Int.le_of_mul_le_mul_left (a:=d) Aa hd;omega
 ·subst huv
  rw[Int.sub_self,Int.mul_zero]at h;rcases Int.mul_eq_zero.1 h with h|h<;>omega
 ·have e1:0<=k*(u-v):=Int.mul_nonneg h0 Aa
  have e2:k*(u-v)<=d*(u-v):=Int.mul_le_mul_of_nonneg_right h1 Aa
  have h':d*(u-p)=k*(u-v):=by
   exact MS
  have f1:0<=u-p:=by
   by_cases hq:0<=u-p
   ·exact hq
   ·have:=Int.mul_neg_of_pos_of_neg hd (show u-p<0 from Aa);omega
  have f2:u-p<=u-v:=Int.le_of_mul_le_mul_left (a:=d) Aa hd;omega
theorem eJ0{d k u v p:Int}(hd:0<d)(h:d*(p-u)=k*(v-u))(hne:u≠v)(hb:min u v<=p/\p<=max u v):0<=k/\k<=d:=by
 rcases Int.lt_or_gt_of_ne hne with huv|huv
 ·have e1:0<=d*(p-u):=Int.mul_nonneg Aa Aa
  have e2:d*(p-u)<=d*(v-u):=Int.mul_le_mul_of_nonneg_left Aa Aa;constructor
  ·by_cases hq:0<=k
   ·exact hq
   ·have:=Int.mul_neg_of_neg_of_pos (show k<0 from Aa) (show 0<v-u from Aa);omega
  ·exact Int.le_of_mul_le_mul_right (a:=v-u) Aa Aa
 ·have h':d*(u-p)=k*(u-v):=by
   exact MS
  have e1:0<=d*(u-p):=Int.mul_nonneg Aa Aa;have e2:d*(u-p)<=d*(u-v):=Int.mul_le_mul_of_nonneg_left Aa Aa
  constructor
  ·by_cases hq:0<=k
   ·exact hq
   ·have:=Int.mul_neg_of_neg_of_pos (show k<0 from Aa) (show 0<u-v from Aa);omega
  ·exact Int.le_of_mul_le_mul_right (a:=u-v) Aa Aa
theorem nO{d k:Int}{u v p:Vc}(hd:0<d)(h1:d*(p.1-u.1)=k*(v.1-u.1))(h2:d*(p.2-u.2)=k*(v.2-u.2))(hne:u≠v):Bb (u,v) p↔0<=k/\k<=d:=by
 constructor
 ·rintro⟨b1,b2,b3,b4⟩
  by_cases h:u.1=v.1
  ·have:u.2≠v.2:=fun h'=>hne (Prod.ext h h')
   exact eJ0 hd h2 this ⟨b3,b4⟩
  ·exact eJ0 hd h1 h ⟨b1,b2⟩
 ·rintro⟨k0,k1⟩
  obtain⟨b1,b2⟩:=share hd h1 k0 k1;obtain⟨b3,b4⟩:=share hd h2 k0 k1;exact⟨b1,b2,b3,b4⟩
theorem eC4(s t:Sg):xD s t*(t.1.1-s.1.1)=xA s t*(s.2.1-s.1.1)-xB s t*(t.2.1-t.1.1)/\xD s t*(t.1.2-s.1.2)=xA s t*(s.2.2-s.1.2)-xB s t*(t.2.2-t.1.2):=by
 unfold xD xA xB X dif;simp only;constructor<;>grind
theorem vK(s t:Sg):X (dif s.2 s.1) (dif t.1 s.1)= -xB s t/\X (dif s.2 s.1) (dif t.2 s.1)=xD s t-xB s t/\X (dif t.2 t.1) (dif s.1 t.1)=xA s t/\X (dif t.2 t.1) (dif s.2 t.1)=xA s t-xD s t:=by
 unfold xD xA xB X dif;simp only;refine⟨?_,?_,?_,?_⟩<;>grind
def Com(s t:Sg)(p:Vc):Prop:=eX s p/\eX t p
def uH(s t:Sg)(p:Vc):Prop:=p=s.1\/p=s.2\/p=t.1\/p=t.2
theorem rH{s:Sg}(hs:bI s):eX s s.1:=by
 rw[gZ hs];refine⟨by unfold Bb;omega,?_⟩
 unfold X dif;simp
theorem cN1{s:Sg}(hs:bI s):eX s s.2:=by
 rw[gZ hs];refine⟨by unfold Bb;omega,?_⟩
 unfold X dif;simp only;rw[Int.mul_comm];omega
structure Cr(s t:Sg)(a b d:Int):Prop where
 pos:0<d
 e1:d*(t.1.1-s.1.1)=a*(s.2.1-s.1.1)-b*(t.2.1-t.1.1)
 e2:d*(t.1.2-s.1.2)=a*(s.2.2-s.1.2)-b*(t.2.2-t.1.2)
 kA:xA s t=0↔a=0
 kA':xA s t=xD s t↔a=d
 kB:xB s t=0↔b=0
 kB':xB s t=xD s t↔b=d
theorem eS6{s t:Sg}{a b d:Int}(hs:bI s)(ht:bI t)(hd:xD s t≠0)(h:Cr s t a b d):
 (eX t s.1↔a=0/\0<=b/\b<=d)/\(eX t s.2↔a=d/\0<=b/\b<=d)/\(eX s t.1↔b=0/\0<=a/\a<=d)/\(eX s t.2↔b=d/\0<=a/\a<=d):=by
 obtain⟨x1,x2,x3,x4⟩:=vK s t
 have hns:s.1≠s.2:=by
  intro e;apply hd;unfold xD X dif;rw[e];simp
 have hnt:t.1≠t.2:=by
  intro e;apply hd;unfold xD X dif;rw[e];simp
 obtain⟨hpos,g1,g2,kA,kA',kB,kB'⟩:=h;rw[gZ ht,gZ ht,gZ hs,gZ hs,x1,x2,x3,x4];refine⟨?_,?_,?_,?_⟩
 ·constructor
  ·rintro⟨q1,q2⟩
   have ha:=kA.1 q2;subst ha;refine⟨rfl,(nO (u:=t.1) (v:=t.2) (p:=s.1) hpos ?_ ?_ hnt).1 q1⟩
   ·grind
   ·grind
  ·rintro⟨ha,q⟩
   subst ha;refine⟨(nO (u:=t.1) (v:=t.2) (p:=s.1) hpos ?_ ?_ hnt).2 q,kA.2 rfl⟩
   ·grind
   ·grind
 ·constructor
  ·rintro⟨q1,q2⟩
   have ha:=kA'.1 Aa;subst ha;refine⟨rfl,(nO (u:=t.1) (v:=t.2) (p:=s.2) hpos ?_ ?_ hnt).1 q1⟩
   ·grind
   ·grind
  ·rintro⟨ha,q⟩
   subst ha;refine⟨(nO (u:=t.1) (v:=t.2) (p:=s.2) hpos ?_ ?_ hnt).2 q,by have:=kA'.2 rfl;omega⟩
   ·grind
   ·grind
 ·constructor
  ·rintro⟨q1,q2⟩
   have ha:=kB.1 Aa;subst ha;refine⟨rfl,(nO (u:=s.1) (v:=s.2) (p:=t.1) hpos ?_ ?_ hns).1 q1⟩
   ·grind
   ·grind
  ·rintro⟨ha,q⟩
   subst ha;refine⟨(nO (u:=s.1) (v:=s.2) (p:=t.1) hpos ?_ ?_ hns).2 q,by have:=kB.2 rfl;omega⟩
   ·grind
   ·grind
 ·constructor
  ·rintro⟨q1,q2⟩
   have ha:=kB'.1 Aa;subst ha;refine⟨rfl,(nO (u:=s.1) (v:=s.2) (p:=t.2) hpos ?_ ?_ hns).1 q1⟩
   ·grind
   ·grind
  ·rintro⟨ha,q⟩
   subst ha;refine⟨(nO (u:=s.1) (v:=s.2) (p:=t.2) hpos ?_ ?_ hns).2 q,by have:=kB'.2 rfl;omega⟩
   ·grind
   ·grind
theorem cr_of{s t:Sg}(hd:xD s t≠0):Cr s t (if xD s t<0 then 0-xA s t else xA s t) (if xD s t<0 then 0-xB s t else xB s t) (if xD s t<0 then 0-xD s t else xD s t):=by
 obtain⟨e1,e2⟩:=eC4 s t;by_cases h:xD s t<0
 ·rw[if_pos h,if_pos h,if_pos h]
  exact⟨Aa,Gw,Gw,Aa,Aa,Aa,Aa⟩
 ·rw[if_neg h,if_neg h,if_neg h]
  exact⟨Aa,e1,e2,Iff.rfl,Iff.rfl,Iff.rfl,Iff.rfl⟩
theorem aL3{u v w:Vc}(h1:X u w=0)(h2:X v w=0)(hw:w≠(0,0)):X u v=0:=by
 unfold X at*;by_cases h:w.1=0
 ·have hw2:w.2≠0:=fun h'=>hw (Prod.ext h h')
  have e:w.2*(u.1*v.2-u.2*v.1)=0:=by
   rw[h]at h1 h2;have a1:u.1*w.2=0:=by rw[Int.mul_zero]at h1;omega
   have a2:v.1*w.2=0:=by rw[Int.mul_zero]at h2;omega
   grind
  rcases Int.mul_eq_zero.1 e with e|e
  ·exact absurd e hw2
  ·exact e
 ·have e:w.1*(u.1*v.2-u.2*v.1)=0:=by grind
  rcases Int.mul_eq_zero.1 e with e|e
  ·exact absurd e h
  ·exact e
theorem eO4{s t:Sg}(hs:bI s)(ht:bI t)(hd:xD s t≠0){p q:Vc}(hp:Com s t p)(hq:Com s t q):p=q:=by
 by_cases h:p=q
 ·exact h
 exfalso;apply hd;have a1:=((gZ hs).1 hp.1).2;have a2:=((gZ hs).1 hq.1).2
 have b1:=((gZ ht).1 hp.2).2;have b2:=((gZ ht).1 hq.2).2
 refine aL3 (u:=dif s.2 s.1) (v:=dif t.2 t.1) (w:=dif p q) ?_ ?_ ?_
 ·have e:X (dif s.2 s.1) (dif p q)=X (dif s.2 s.1) (dif p s.1)-X (dif s.2 s.1) (dif q s.1):=by unfold X dif;simp only;grind
  rw[e,a1,a2];rfl
 ·have e:X (dif t.2 t.1) (dif p q)=X (dif t.2 t.1) (dif p t.1)-X (dif t.2 t.1) (dif q t.1):=by unfold X dif;simp only;grind
  rw[e,b1,b2];rfl
 ·intro e
  apply h;have e1:p.1-q.1=0:=congrArg Prod.fst e;have e2:p.2-q.2=0:=congrArg Prod.snd e
  exact Prod.ext Aa Aa
def zT9(s t:Sg):Prop:=kR s.1 s.2 t.1*kR s.1 s.2 t.2<0/\kR t.1 t.2 s.1*kR t.1 t.2 s.2<0
theorem cmp_neg{m n:Int}:cmpI m 0*cmpI n 0<0↔(m<0/\0<n)\/(0<m/\n<0):=by
 unfold cmpI;split<;>split<;>(try split)<;>(try split)<;>omega
theorem wY{s t:Sg}(hs:bI s)(ht:bI t):zT9 s t↔((-xB s t<0/\0<xD s t-xB s t)\/(0< -xB s t/\xD s t-xB s t<0))/\((xA s t<0/\0<xA s t-xD s t)\/(0<xA s t/\xA s t-xD s t<0)):=by
 obtain⟨a,b⟩:=jP.1 hs;obtain⟨c,d⟩:=jP.1 ht;obtain⟨x1,x2,x3,x4⟩:=vK s t;unfold zT9;rw[zH a b c,zH a b d,zH c d a,zH c d b,x1,x2,x3,x4,cmp_neg,cmp_neg]
structure bT6(s t:Sg)(k:Int):Prop where
 over:k=3↔∃p q,uH s t p/\uH s t q/\p≠q/\Com s t p/\Com s t q
 touch:(∃p,uH s t p/\Com s t p)↔k=1\/k=3
 cross:k=2↔(¬∃p,uH s t p/\Com s t p)/\zT9 s t
theorem eK8{s t:Sg}(hs:bI s)(ht:bI t)(hd:xD s t≠0):bT6 s t (dG s t):=by
 have hc:=cr_of (s:=s) (t:=t) hd;obtain⟨c1,c2,c3,c4⟩:=eS6 hs ht hd hc;have hcr:=wY hs ht
 have hk:dG s t=uJ (if xD s t<0 then 0-xA s t else xA s t) (if xD s t<0 then 0-xB s t else xB s t) (if xD s t<0 then 0-xD s t else xD s t):=by
  rw[dI7 hs ht hd];split<;>rfl
 have hpos:=hc.pos
 have hcr2:zT9 s t↔(0< (if xD s t<0 then 0-xB s t else xB s t)/\(if xD s t<0 then 0-xB s t else xB s t)< (if xD s t<0 then 0-xD s t else xD s t))/\(0< (if xD s t<0 then 0-xA s t else xA s t)/\(if xD s t<0 then 0-xA s t else xA s t)< (if xD s t<0 then 0-xD s t else xD s t)):=by
  rw[hcr];by_cases h:xD s t<0
  ·simp only[if_pos h];omega
  ·simp only[if_neg h];omega
 generalize (if xD s t<0 then 0-xA s t else xA s t)=a at*
 generalize (if xD s t<0 then 0-xB s t else xB s t)=b at*
 generalize (if xD s t<0 then 0-xD s t else xD s t)=d at*
 have hsome:(∃p,uH s t p/\Com s t p)↔uJ a b d=1:=by
  constructor
  ·rintro⟨p,hp,h1,h2⟩
   unfold uJ;rcases hp with rfl|rfl|rfl|rfl
   ·have:=c1.1 h2;rw[if_neg Aa,if_pos Aa]
   ·have:=c2.1 h2;rw[if_neg Aa,if_pos Aa]
   ·have:=c3.1 h1;rw[if_neg Aa,if_pos Aa]
   ·have:=c4.1 h1;rw[if_neg Aa,if_pos Aa]
  ·intro h
   unfold uJ at h;split at h
   ·cases h
   ·split at h
    ·rename_i n1 n2
     rcases n2 with n2|n2|n2|n2
     ·exact⟨s.1, .inl rfl,rH hs,c1.2 Aa⟩
     ·exact⟨s.2, .inr (.inl rfl),cN1 hs,c2.2 Aa⟩
     ·exact⟨t.1, .inr (.inr (.inl rfl)),c3.2 Aa,rH ht⟩
     ·exact⟨t.2, .inr (.inr (.inr rfl)),c4.2 Aa,cN1 ht⟩
    ·cases h
 have hv:uJ a b d=0\/uJ a b d=1\/uJ a b d=2:=by
  unfold uJ;split
  ·simp
  ·split<;>simp
 rw[hk];refine⟨⟨fun h=>Aa,?_⟩,?_,?_⟩
 ·rintro⟨p,q,_,_,hne,h1,h2⟩
  exact absurd (eO4 hs ht hd h1 h2) hne
 ·rw[hsome];omega
 ·rw[hsome,hcr2]
  unfold uJ;split
  ·constructor
   ·intro h;omega
   ·rintro⟨_,h⟩;omega
  ·split
   ·constructor
    ·intro h;omega
    ·rintro⟨_,h⟩;omega
   ·constructor
    ·intro _;exact⟨Aa,Aa⟩
    ·intro _;rfl
theorem cD2{u p:Vc}(h:Bb (u,u) p):p=u:=by
 unfold Bb at h;exact Prod.ext (by simp only at h;omega) (by simp only at h;omega)
theorem cW7{s t:Sg}(hs:bI s)(ht:bI t)(hd:xD s t=0)(he:s.1=s.2):bT6 s t (dG s t):=by
 have hcom:∀p,Com s t p↔p=s.1/\eX t s.1:=by
  intro p;constructor
  ·rintro⟨h1,h2⟩
   have h3:p=s.1:=cD2 (u:=s.1) (by have:=((gZ hs).1 h1).1;unfold Bb at*;rw[<-he]at this;exact this)
   exact⟨h3,h3▸h2⟩
  ·rintro⟨rfl,h⟩
   exact⟨rH hs,h⟩
 have hB:xB s t=0:=by unfold xB;rw[<-he];unfold X dif;simp
 have hcr:¬zT9 s t:=by rw[wY hs ht,hB,hd];omega
 have hk:dG s t=open Classical in if eX t s.1 then 1 else 0:=by
  obtain⟨e1,_,_⟩:=aM8 hs ht;unfold dG kQ;rw[if_neg (by rintro(h|h)<;>exact h Af),if_neg FT]
  by_cases h:eX t s.1
  ·rw[if_pos ⟨he,h⟩,if_pos h];rfl
  ·rw[if_neg (fun q=>h q.2),if_neg h,if_neg,if_pos (.inl he)]
   ·rfl
   ·rintro⟨h1,h2⟩
    have h3:t.1=s.1:=cD2 (u:=s.1) (by have:=((gZ hs).1 h2).1;unfold Bb at*;rw[<-he]at this;exact this)
    exact h (h3▸rH ht)
 rw[hk];by_cases h:eX t s.1
 ·rw[if_pos h]
  refine⟨⟨fun h=>Ad,?_⟩,⟨fun _=> .inl rfl,fun _=>⟨s.1, .inl rfl,(hcom _).2 ⟨rfl,h⟩⟩⟩,⟨fun h=>Ad,fun h=>absurd h.2 hcr⟩⟩;rintro⟨p,q,_,_,hne,h1,h2⟩;exact Nr
 ·exact Ij
theorem dA9{s t:Sg}(hs:bI s)(ht:bI t)(hd:xD s t=0)(hne:s.1≠s.2)(he:t.1=t.2):bT6 s t (dG s t):=by
 have hcom:∀p,Com s t p↔p=t.1/\eX s t.1:=by
  intro p;constructor
  ·rintro⟨h1,h2⟩
   have h3:p=t.1:=cD2 (u:=t.1) (by have:=((gZ ht).1 h2).1;unfold Bb at*;rw[<-he]at this;exact this)
   exact⟨h3,h3▸h1⟩
  ·rintro⟨rfl,h⟩
   exact⟨h,rH ht⟩
 have hA:xA s t=0:=by unfold xA;rw[<-he];unfold X dif;simp
 have hcr:¬zT9 s t:=by rw[wY hs ht,hA,hd];omega
 have hk:dG s t=open Classical in if eX s t.1 then 1 else 0:=by
  obtain⟨e1,_,_⟩:=aM8 hs ht;unfold dG kQ;rw[if_neg (by rintro(h|h)<;>exact h Af),if_neg FT,if_neg (fun q=>hne q.1)]
  by_cases h:eX s t.1
  ·rw[if_pos ⟨he,h⟩,if_pos h];rfl
  ·rw[if_neg (fun q=>h q.2),if_neg h,if_pos (.inr (.inl he))]
   rfl
 rw[hk];by_cases h:eX s t.1
 ·rw[if_pos h]
  refine⟨⟨fun h=>Ad,?_⟩,⟨fun _=> .inl rfl,fun _=>⟨t.1, .inr (.inr (.inl rfl)),(hcom _).2 ⟨rfl,h⟩⟩⟩,⟨fun h=>Ad,fun h=>absurd h.2 hcr⟩⟩;rintro⟨p,q,_,_,hne,h1,h2⟩;exact Nr
 ·exact Ij
theorem bZ7{a b:Vc}(h:a≠b):dif b a≠(0,0):=by
 intro e;have e1:b.1-a.1=0:=congrArg Prod.fst e;have e2:b.2-a.2=0:=congrArg Prod.snd e
 exact h (Prod.ext Aa Aa)
theorem dR9{s t:Sg}(hs:bI s)(ht:bI t)(hd:xD s t=0)(h1:s.1≠s.2)(h2:t.1≠t.2)(hB:xB s t≠0):bT6 s t (dG s t):=by
 obtain⟨a,b⟩:=jP.1 hs;obtain⟨c,d⟩:=jP.1 ht;obtain⟨x1,x2,x3,x4⟩:=vK s t
 have hno:∀p,¬Com s t p:=by
  rintro p ⟨q1,q2⟩;have a1:=((gZ hs).1 q1).2;have b1:=((gZ ht).1 q2).2
  have e1:X (dif s.2 s.1) (dif p t.1)=0:=aL3 (w:=dif t.2 t.1) hd (by unfold X at*;rw[Int.mul_comm,Int.mul_comm (dif p t.1).2];omega) (bZ7 h2)
  apply hB;have e2:X (dif s.2 s.1) (dif t.1 s.1)=X (dif s.2 s.1) (dif p s.1)-X (dif s.2 s.1) (dif p t.1):=Bq;rw[x1,a1,e1]at e2;omega
 have hcr:¬zT9 s t:=by rw[wY hs ht,hd];omega
 have hk:dG s t=0:=by
  obtain⟨e1,_,_⟩:=aM8 hs ht;unfold dG kQ;rw[if_neg (by rintro(h|h)<;>exact h Af),if_neg FT,if_neg (fun q=>h1 q.1),if_neg (fun q=>h2 q.1),if_pos (.inr (.inr (by rw[zH a b c,x1,tC];omega)))]
  rfl
 rw[hk];refine⟨⟨fun h=>Ad,?_⟩,⟨?_,fun h=>Ez⟩,⟨fun h=>Ad,fun h=>absurd h.2 hcr⟩⟩
 ·rintro⟨p,q,_,_,hne,h1,h2⟩
  exact absurd h1 (hno p)
 ·rintro⟨p,_,h1⟩
  exact absurd h1 (hno p)
def co(w p:Vc):Int:=if w.2≠0 then p.2 else p.1
def onL(w o p:Vc):Prop:=X w (dif p o)=0
theorem xR{w o p q:Vc}(hp:onL w o p)(hq:onL w o q):w.1*(p.2-q.2)=w.2*(p.1-q.1):=by
 unfold onL X dif at*;simp only at*;grind
theorem bX1{w o p q:Vc}(hw:w≠(0,0))(hp:onL w o p)(hq:onL w o q)(h:co w p=co w q):p=q:=by
 have e:=xR hp hq;unfold co at h;by_cases h2:w.2=0
 ·rw[if_neg FH,if_neg FH]at h
  have h1:w.1≠0:=fun h'=>hw (Prod.ext h' h2);rw[h2,Int.zero_mul]at e;rcases Int.mul_eq_zero.1 e with e|e
  ·exact absurd e h1
  ·exact Prod.ext h Aa
 ·rw[if_pos h2,if_pos h2]at h
  rw[show p.2-q.2=0 from Aa,Int.mul_zero]at e;rcases Int.mul_eq_zero.1 e.symm with e|e
  ·exact absurd e h2
  ·exact Prod.ext Aa h
theorem aZ9{w o p q:Vc}(hw:w≠(0,0))(hp:onL w o p)(hq:onL w o q):kF p q↔co w p<co w q:=by
 rw[aG2];have e:=xR hp hq;unfold co;by_cases h2:w.2=0
 ·rw[if_neg FH,if_neg FH]
  have h1:w.1≠0:=fun h'=>hw (Prod.ext h' h2);rw[h2,Int.zero_mul]at e;rcases Int.mul_eq_zero.1 e with e|e
  ·exact absurd e h1
  ·omega
 ·rw[if_pos h2,if_pos h2]
  constructor
  ·rintro(h|⟨h,h'⟩)
   ·exact h
   ·rw[show p.2-q.2=0 from Aa,Int.mul_zero]at e
    rcases Int.mul_eq_zero.1 e.symm with e|e
    ·exact absurd e h2
    ·omega
  ·exact fun h=> .inl h
theorem dE8{w o p q r:Vc}(hw:w≠(0,0))(hp:onL w o p)(hq:onL w o q)(hr:onL w o r):Bb (p,q) r↔min (co w p) (co w q)<=co w r/\co w r<=max (co w p) (co w q):=by
 have e1:=xR hr hp;have e2:=xR hq hp
 unfold Bb;simp only;by_cases h2:w.2=0
 ·have h1:w.1≠0:=fun h'=>hw (Prod.ext h' h2)
  unfold co;rw[if_neg FH,if_neg FH,if_neg FH];rw[h2,Int.zero_mul]at e1 e2;rcases Int.mul_eq_zero.1 e1 with e1|e1
  ·exact absurd e1 h1
  ·rcases Int.mul_eq_zero.1 e2 with e2|e2
   ·exact absurd e2 h1
   ·omega
 ·unfold co
  rw[if_pos h2,if_pos h2,if_pos h2];constructor
  ·rintro⟨_,_,h3,h4⟩;exact⟨h3,h4⟩
  ·rintro⟨h3,h4⟩
   have hx:(q.2-p.2)*(r.1-p.1)=(r.2-p.2)*(q.1-p.1):=by
    have:w.2*((q.2-p.2)*(r.1-p.1)- (r.2-p.2)*(q.1-p.1))=0:=Gw;rcases Int.mul_eq_zero.1 this with h|h
    ·exact absurd h h2
    ·omega
   rcases Int.lt_trichotomy p.2 q.2 with hlt|heq|hgt
   ·obtain⟨g1,g2⟩:=share (d:=q.2-p.2) (k:=r.2-p.2) (u:=p.1) (v:=q.1) (p:=r.1) Aa hx Aa Aa
    exact⟨g1,g2,h3,h4⟩
   ·have hpq:p=q:=bX1 hw hp hq (by unfold co;rw[if_pos h2,if_pos h2];exact heq)
    have hrp:r=p:=bX1 hw hr hp (by unfold co;rw[if_pos h2,if_pos h2];omega)
    subst hrp;subst hpq;omega
   ·obtain⟨g1,g2⟩:=share (d:=p.2-q.2) (k:=p.2-r.2) (u:=p.1) (v:=q.1) (p:=r.1) Aa (by
     have a1:(p.2-q.2)*(r.1-p.1)= -((q.2-p.2)*(r.1-p.1)):=by rw[<-Int.neg_mul];congr 1;omega
     have a2:(p.2-r.2)*(q.1-p.1)= -((r.2-p.2)*(q.1-p.1)):=by rw[<-Int.neg_mul];congr 1;omega
     rw[a1,a2,hx]) Aa Aa
    exact⟨g1,g2,h3,h4⟩
theorem bS9{a b:Vc}:vcmp a b=0↔a=b:=by
 constructor
 ·intro h
  unfold vcmp orI cmpI at h
  have h2:a.2=b.2/\a.1=b.1:=by
   split at h<;>(try split at h)<;>(try split at h)<;>(try split at h)<;>(try split at h)<;>omega
  exact Prod.ext h2.2 h2.1
 ·rintro rfl
  unfold vcmp orI cmpI;simp
theorem dD9{a b:Vc}:vcmp a b= -1↔kF a b:=by
 unfold kF;rcases gC8 a b with h|h|h<;>omega
theorem cE8{A B C D lo hi:Int}(h1:lo=max (min A B) (min C D))(h2:hi=min (max A B) (max C D))(x:Int):((min A B<=x/\x<=max A B)/\(min C D<=x/\x<=max C D))↔lo<=x/\x<=hi:=by
 constructor
 ·rintro⟨⟨a,b⟩,c,d⟩;omega
 ·rintro⟨a,b⟩;omega
theorem eN9{A B C D lo:Int}(h1:lo=max (min A B) (min C D)):lo=A\/lo=B\/lo=C\/lo=D:=Aa
theorem eL9{A B C D hi:Int}(h1:hi=min (max A B) (max C D)):hi=A\/hi=B\/hi=C\/hi=D:=Aa
theorem eA6{s t:Sg}(hs:bI s)(ht:bI t)(hd:xD s t=0)(h1:s.1≠s.2)(h2:t.1≠t.2)(hB:xB s t=0):bT6 s t (dG s t):=by
 obtain⟨a,b⟩:=jP.1 hs;obtain⟨c,d⟩:=jP.1 ht;obtain⟨x1,x2,x3,x4⟩:=vK s t;have hw:=bZ7 h1;have la:onL (dif s.2 s.1) s.1 s.1:=by unfold onL X dif;simp
 have lb:onL (dif s.2 s.1) s.1 s.2:=Dw;have lc:onL (dif s.2 s.1) s.1 t.1:=by unfold onL;rw[x1,hB];rfl
 have ld:onL (dif s.2 s.1) s.1 t.2:=by unfold onL;rw[x2,hB,hd];rfl
 have lall:∀p,uH s t p->onL (dif s.2 s.1) s.1 p:=by
  rintro p (rfl|rfl|rfl|rfl)<;>assumption
 have lt':∀p,onL (dif s.2 s.1) s.1 p->X (dif t.2 t.1) (dif p t.1)=0:=fun p hp=>Ih
 have hf:∀p,onL (dif s.2 s.1) s.1 p->(Com s t p↔(min (co (dif s.2 s.1) s.1) (co (dif s.2 s.1) s.2)<=co (dif s.2 s.1) p/\co (dif s.2 s.1) p<=max (co (dif s.2 s.1) s.1) (co (dif s.2 s.1) s.2))/\
  (min (co (dif s.2 s.1) t.1) (co (dif s.2 s.1) t.2)<=co (dif s.2 s.1) p/\co (dif s.2 s.1) p<=max (co (dif s.2 s.1) t.1) (co (dif s.2 s.1) t.2))):=fun p hp=>by
  exact KU
 have hcr:¬zT9 s t:=by rw[wY hs ht,hB,hd];omega
 have hord:∀(q:Sg),onL (dif s.2 s.1) s.1 q.1->onL (dif s.2 s.1) s.1 q.2->onL (dif s.2 s.1) s.1 (ordS q).1/\onL (dif s.2 s.1) s.1 (ordS q).2/\co (dif s.2 s.1) (ordS q).1=min (co (dif s.2 s.1) q.1) (co (dif s.2 s.1) q.2)/\co (dif s.2 s.1) (ordS q).2=max (co (dif s.2 s.1) q.1) (co (dif s.2 s.1) q.2):=fun q g1 g2=>by
  have k:=aZ9 hw g2 g1;by_cases hv:kF q.2 q.1
  ·rw[cZ7 hv]
   have:=k.1 hv;exact⟨g2,g1,A8,A8⟩
  ·rw[cY4 hv]
   have:¬co (dif s.2 s.1) q.2<co (dif s.2 s.1) q.1:=fun h=>hv (k.2 h);exact⟨g1,g2,Aa,Aa⟩
 obtain⟨s1,s2,s3,s4⟩:=hord s la lb;obtain⟨t1,t2,t3,t4⟩:=hord t lc ld
 have hlo:onL (dif s.2 s.1) s.1 (hiLo (ordS s) (ordS t)).1/\onL (dif s.2 s.1) s.1 (hiLo (ordS s) (ordS t)).2/\co (dif s.2 s.1) (hiLo (ordS s) (ordS t)).1=max (co (dif s.2 s.1) (ordS s).1) (co (dif s.2 s.1) (ordS t).1)/\co (dif s.2 s.1) (hiLo (ordS s) (ordS t)).2=min (co (dif s.2 s.1) (ordS s).2) (co (dif s.2 s.1) (ordS t).2):=by
  have k1:=aZ9 hw s1 t1;have k2:=aZ9 hw t2 s2
  unfold hiLo;simp only;refine⟨?_,?_,?_,?_⟩
  ·split<;>assumption
  ·split<;>assumption
  ·split
   ·rename_i h;have:=k1.1 h;omega
   ·rename_i h
    have:¬co (dif s.2 s.1) (ordS s).1<co (dif s.2 s.1) (ordS t).1:=fun q=>h (k1.2 q);omega
  ·split
   ·rename_i h;have:=k2.1 h;omega
   ·rename_i h
    have:¬co (dif s.2 s.1) (ordS t).2<co (dif s.2 s.1) (ordS s).2:=fun q=>h (k2.2 q);omega
 have hk:dG s t=(yD (hiLo (ordS s) (ordS t))).kind:=by
  obtain⟨e1,_,_⟩:=aM8 hs ht;unfold dG kQ;rw[if_neg (by rintro(h|h)<;>exact h Af),if_neg FT,if_neg (fun q=>h1 q.1),if_neg (fun q=>h2 q.1),if_neg]
  rintro(h|h|h)
  ·exact h1 h
  ·exact h2 h
  ·exact h (by rw[zH a b c,x1,hB];rfl)
 obtain⟨l1,l2,l3,l4⟩:=hlo;rw[s3,t3]at l3;rw[s4,t4]at l4
 have hkind:(co (dif s.2 s.1) (hiLo (ordS s) (ordS t)).1=co (dif s.2 s.1) (hiLo (ordS s) (ordS t)).2/\dG s t=1)\/(co (dif s.2 s.1) (hiLo (ordS s) (ordS t)).1<co (dif s.2 s.1) (hiLo (ordS s) (ordS t)).2/\dG s t=3)\/(co (dif s.2 s.1) (hiLo (ordS s) (ordS t)).2<co (dif s.2 s.1) (hiLo (ordS s) (ordS t)).1/\dG s t=0):=by
  rw[hk];generalize hiLo (ordS s) (ordS t)=q at*;have k:=aZ9 hw l1 l2;unfold yD;by_cases g0:vcmp q.1 q.2=0
  ·rw[if_pos g0]
   left;exact⟨by rw[bS9.1 g0],rfl⟩
  ·rw[if_neg g0]
   have hne:co (dif s.2 s.1) q.1≠co (dif s.2 s.1) q.2:=fun h=>g0 (bS9.2 (bX1 hw l1 l2 h));by_cases g1:vcmp q.1 q.2= -1
   ·rw[if_pos g1]
    right;left;exact⟨k.1 (dD9.1 g1),rfl⟩
   ·rw[if_neg g1]
    right;right;have:¬co (dif s.2 s.1) q.1<co (dif s.2 s.1) q.2:=fun h=>g1 (dD9.2 (k.2 h));exact⟨Aa,rfl⟩
 have hlohi:=cE8 (A:=co (dif s.2 s.1) s.1) (B:=co (dif s.2 s.1) s.2) (C:=co (dif s.2 s.1) t.1) (D:=co (dif s.2 s.1) t.2) l3 l4;have hp1:=eN9 (A:=co (dif s.2 s.1) s.1) (B:=co (dif s.2 s.1) s.2) (C:=co (dif s.2 s.1) t.1) (D:=co (dif s.2 s.1) t.2) l3
 have hp2:=eL9 (A:=co (dif s.2 s.1) s.1) (B:=co (dif s.2 s.1) s.2) (C:=co (dif s.2 s.1) t.1) (D:=co (dif s.2 s.1) t.2) l4;have hf2:∀p,onL (dif s.2 s.1) s.1 p->(Com s t p↔co (dif s.2 s.1) (hiLo (ordS s) (ordS t)).1<=co (dif s.2 s.1) p/\co (dif s.2 s.1) p<=co (dif s.2 s.1) (hiLo (ordS s) (ordS t)).2):=fun p hp=>(hf p hp).trans (hlohi _)
 clear hf hlohi l3 l4 s3 s4 t3 t4 hord hk lt';generalize co (dif s.2 s.1) (hiLo (ordS s) (ordS t)).1=lo at*;generalize co (dif s.2 s.1) (hiLo (ordS s) (ordS t)).2=hi at*
 have pick:∀z:Int,(z=co (dif s.2 s.1) s.1\/z=co (dif s.2 s.1) s.2\/z=co (dif s.2 s.1) t.1\/z=co (dif s.2 s.1) t.2)->∃p,uH s t p/\co (dif s.2 s.1) p=z:=by
  rintro z (h|h|h|h)
  ·exact⟨_, .inl rfl,h.symm⟩
  ·exact⟨_, .inr (.inl rfl),h.symm⟩
  ·exact⟨_, .inr (.inr (.inl rfl)),h.symm⟩
  ·exact⟨_, .inr (.inr (.inr rfl)),h.symm⟩
 obtain⟨pl,pl1,pl2⟩:=pick _ hp1;obtain⟨ph,ph1,ph2⟩:=pick _ hp2;have fl:=hf2 _ (lall _ pl1);have fh:=hf2 _ (lall _ ph1)
 rw[pl2]at fl;rw[ph2]at fh
 have hsome:(∃p,uH s t p/\Com s t p)↔dG s t=1\/dG s t=3:=by
  constructor
  ·rintro⟨p,g1,g2⟩
   have:=(hf2 _ (lall _ g1)).1 g2;omega
  ·intro h
   exact⟨pl,pl1,fl.2 Aa⟩
 refine⟨⟨fun h=>?_,?_⟩,hsome,⟨fun h=>Aa,fun h=>absurd h.2 hcr⟩⟩
 ·refine⟨pl,ph,pl1,ph1,fun e=>?_,fl.2 Aa,fh.2 Aa⟩
  rw[e]at pl2;omega
 ·rintro⟨p,q,g1,g2,g3,g4,g5⟩
  have k1:=(hf2 _ (lall _ g1)).1 g4;have k2:=(hf2 _ (lall _ g2)).1 g5
  have k3:co (dif s.2 s.1) p≠co (dif s.2 s.1) q:=fun e=>g3 (bX1 hw (lall _ g1) (lall _ g2) e);omega
theorem tells{s t:Sg}(hs:bI s)(ht:bI t):bT6 s t (dG s t):=by
 by_cases hd:xD s t=0
 ·by_cases h1:s.1=s.2
  ·exact cW7 hs ht hd h1
  ·by_cases h2:t.1=t.2
   ·exact dA9 hs ht hd h1 h2
   ·by_cases hB:xB s t=0
    ·exact eA6 hs ht hd h1 h2 hB
    ·exact dR9 hs ht hd h1 h2 hB
 ·exact eK8 hs ht hd
def wR(a b c d:Int)(p:Vc):Prop:=a<p.1/\p.1<c/\b<p.2/\p.2<d
def wP(a b c d:Int)(p:Vc):Prop:=a<=p.1/\p.1<=c/\b<=p.2/\p.2<=d
theorem bJ0{p v:Vc}(h1:Sm4 p)(h2:Sm4 v):toP (p.1,p.2,1) v=dif p v:=by
 unfold Sm4 at*;unfold toP dif;simp only[Int.mul_one];rw[w_in (n:=v.1) Aa,w_in (n:=v.2) Aa,w_in Aa,w_in Aa]
theorem dF8{p:Vc}{e:Sg}(h1:Sm4 p)(he:bI e):bV4 (p.1,p.2,1) e=X (dif e.2 e.1) (dif p e.1):=by
 obtain⟨a,b⟩:=jP.1 he;unfold bV4;rw[bJ0 h1 a];unfold Sm4 at*;rw[kN ⟨Aa,Aa⟩ ⟨Aa,Aa⟩];unfold dif;rw[iK ⟨A8,A8⟩ ⟨A8,A8⟩ ⟨A8,A8⟩ ⟨A8,A8⟩];rfl
theorem cC3{p:Vc}{e:Sg}(h1:Sm4 p)(he:bI e):onE (p.1,p.2,1) e↔eX e p:=by
 obtain⟨a,b⟩:=jP.1 he;rw[gZ he];unfold onE;rw[dF8 h1 he,bJ0 h1 a,bJ0 h1 b];unfold Bb dif;simp only;constructor
 ·rintro⟨q1,q2,q3,q4,q5⟩
  exact⟨⟨Aa,Aa,Aa,Aa⟩,q1⟩
 ·rintro⟨⟨q2,q3,q4,q5⟩,q1⟩
  exact⟨q1,Aa,Aa,Aa,Aa⟩
def rayC(e:Sg)(p:Vc)(z:Int):Prop:=(e.1.2<=p.2/\p.2<e.2.2/\0<z)\/(e.2.2<=p.2/\p.2<e.1.2/\z<0)
theorem dD7{p:Vc}{e:Sg}(h1:Sm4 p)(he:bI e)(hn:¬eX e p):rW (p.1,p.2,1) e↔rayC e p (X (dif e.2 e.1) (dif p e.1)):=by
 obtain⟨a,b⟩:=jP.1 he;rw[gZ he]at hn;unfold rW;rw[dF8 h1 he,bJ0 h1 a,bJ0 h1 b]
 have hz:e.2.2<=p.2->p.2<e.1.2->X (dif e.2 e.1) (dif p e.1)≠0:=by
  intro g1 g2 g3;apply hn;refine⟨?_,g3⟩;unfold X dif at g3;simp only at g3;obtain⟨k1,k2⟩:=share (d:=e.1.2-e.2.2) (k:=e.1.2-p.2) (u:=e.1.1) (v:=e.2.1) (p:=p.1) Aa Gw Aa Aa;unfold Bb;omega
 generalize X (dif e.2 e.1) (dif p e.1)=z at*;unfold rayC dif;simp only;constructor
 ·rintro⟨q1,q2⟩
  by_cases c1:0<=p.2-e.1.2
  ·have c2:¬0<=p.2-e.2.2:=fun c2=>q1 ⟨fun _=>c2,fun _=>c1⟩
   exact .inl ⟨Aa,Aa,q2.1 c1⟩
  ·have c2:0<=p.2-e.2.2:=by
    by_cases c2:0<=p.2-e.2.2
    ·exact c2
    ·exact absurd ⟨fun h=>absurd h c1,fun h=>absurd h c2⟩ q1
   have hz':=hz Aa Aa;have:¬0<z:=fun h=>c1 (q2.2 h)
   exact .inr ⟨Aa,Aa,Aa⟩
 ·rintro(⟨q1,q2,q3⟩|⟨q1,q2,q3⟩)
  ·exact⟨fun h=>by have:=h.1 (by omega);omega,fun _=>q3,fun _=>Aa⟩
  ·exact⟨fun h=>by have:=h.2 (by omega);omega,fun h=>Aa,fun h=>Aa⟩
theorem pY{v:Vc}:within v 4000↔Sm4 v:=by
 rw[within_iff Aa];exact Iff.rfl
theorem bC7{p:Vc}(h:Sm4 p):wJ (p.1,p.2,1):=by
 unfold Sm4 at h;refine⟨⟨(by decide:(1:Int)<=1),(by decide:(1:Int)<=134217728),?_⟩,gcd_one _⟩
 show within (p.1,p.2) (W (4000*1));rw[show W (4000*1)=4000 from Aj];exact pY.2 h
theorem aE1{r:Rg}{i:Nat}(h:i<r.length):r.getD i z0∈r:=JJ
theorem bA6{r:Rg}{i:Nat}(h:i<r.length):iU r i∈r:=aE1 (Nat.mod_lt _ Aa)
theorem jO{r:Rg}(hn:bR7 r){e:Sg}(he:e∈bF r):bI e:=by
 unfold bF at he;split at he
 ·cases he
 ·obtain⟨i,hi,rfl⟩:=List.mem_map.1 he
  have hi':=List.mem_range.1 hi;have h1:=hn _ (aE1 hi')
  have h2:=hn _ (bA6 hi');rw[within_iff Aa]at h1 h2;refine jP.2 ⟨?_,?_⟩
  ·show Sm4 (r.getD i z0);unfold Sm4;omega
  ·show Sm4 (iU r i);unfold Sm4;omega
theorem bC8{r:Rg}(h3:3<=r.length){v:Vc}(hv:v∈r):∃e∈bF r,e.1=v:=by
 obtain⟨i,hi,he⟩:=List.mem_iff_getElem.1 hv;refine⟨aJ4 r i,?_,?_⟩
 ·unfold bF
  rw[if_neg Aa];exact List.mem_map_of_mem (List.mem_range.2 hi)
 ·show r.getD i z0=v
  rw[List.getD_eq_getElem?_getD,List.getElem?_eq_getElem hi,he];rfl
theorem yZ{p:Pt}:∀ {l:List Sg} {b:Bool},lU p l b=1↔∃e∈l,onE p e
 | [],b=>by rw[qB];cases b<;>simp
 |e::l,b=>by
  by_cases h:onE p e
  ·rw[oP h]
   exact⟨fun _=>⟨e,Ae,h⟩,fun _=>rfl⟩
  ·by_cases h2:rW p e
   ·rw[rE h h2,yZ]
    constructor
    ·rintro⟨x,hx,q⟩;exact⟨x,Bh,q⟩
    ·rintro⟨x,hx,q⟩
     exact MP
   ·rw[jD h h2,yZ]
    constructor
    ·rintro⟨x,hx,q⟩;exact⟨x,Bh,q⟩
    ·rintro⟨x,hx,q⟩
     exact MP
end Go.Proofs.Led
