/-
  The reference's inventory, walked: a copy whose lists can be changed (library 10).
-/
import Derived.Test.YtkhhdojgbkophaaGreatQB8
set_option linter.unusedVariables false
set_option linter.unusedSimpArgs false
set_option maxRecDepth 100000
set_option maxHeartbeats 4000000
noncomputable section
namespace Go.Proofs.Led
open Go Go.Proofs Go.Ab
theorem fW0{α:Type}{f:α->V}{n:Nat}(hf:∀x,(f x).cells.length=n)(l:List α):∀y∈l.map f,y.cells.length=n:=fun y hy=>Gu
def stR(s:aJ):List V:=[.own 87 (s.stocks.map aQ), .own 98 (s.pieces.map aZ), .own 3 (s.used.map I),I s.received.1,I s.received.2,I s.scrap.1,I s.scrap.2]
theorem fV4(s:aJ)(h1:s.stocks.length<=1000000)(h2:s.pieces.length<=1000000)(h3:s.used.length<=1000000):Sp 65 [invV s] (.tup (.bot::stR s)):=by
 refine zsp Tryz.func65 ?_;have l1:(s.stocks.map aQ).length=s.stocks.length:=Af;have l2:(s.pieces.map aZ).length=s.pieces.length:=Af
 have l3:(s.used.map I).length=s.used.length:=Af
 repeat' ((conv=>whnf);first|refine iH rfl (.inl rfl) rfl (of_decide_eq_true rfl) (fW0 (f:=aQ) (n:=14) (fun _=>rfl) s.stocks) (by show 0+(s.stocks.map aQ).length<=1000000000;omega) ?_|refine iH rfl (.inl rfl) rfl (of_decide_eq_true rfl) (fW0 (f:=aZ) (n:=9) (fun _=>rfl) s.pieces) (by show 0+(s.pieces.map aZ).length<=1000000000;omega) ?_|refine iH rfl (.inl rfl) rfl (of_decide_eq_true rfl) (fW0 (f:=I) (n:=1) (fun _=>rfl) s.used) (by show 0+(s.used.map I).length<=1000000000;omega) ?_|refine gI0 ?_|refine zS ?_|fail)
 all_goals conv=>whnf
 all_goals exact⟨_,_,rfl,rfl,by repeat' (first|exact trivial|refine And.intro ?_ ?_|exact rfl),rfl⟩
def Sm(n:Int):Prop:= -10000<=n/\n<=10000
theorem vG{a b:Int}(ha:Sm a)(hb:Sm b): -100000000<=a*b/\a*b<=100000000:=by
 have h:(a*b).natAbs<=10000*10000:=by
  rw[Int.natAbs_mul];unfold Sm at*;exact Nat.mul_le_mul Aa Aa
 omega
theorem kN{a b:Vc}(h1:Sm (a.1-b.1))(h2:Sm (a.2-b.2)):vsub a b=(a.1-b.1,a.2-b.2):=by
 unfold Sm at*;unfold vsub;rw[w_in Aa,w_in Aa]
theorem iK{a b:Vc}(h1:Sm a.1)(h2:Sm a.2)(h3:Sm b.1)(h4:Sm b.2):bZ a b=a.1*b.2-a.2*b.1:=by
 have q1:=vG h1 h4;have q2:=vG h2 h3
 unfold bZ;rw[w_in (n:=a.1*b.2) Aa,w_in (n:=a.2*b.1) Aa,w_in Aa]
theorem bY4{a b:Vc}(h1:Sm a.1)(h2:Sm a.2)(h3:Sm b.1)(h4:Sm b.2):vdot a b=a.1*b.1+a.2*b.2:=by
 have q1:=vG h1 h3;have q2:=vG h2 h4
 unfold vdot;rw[w_in (n:=a.1*b.1) Aa,w_in (n:=a.2*b.2) Aa,w_in Aa]
theorem tC{n:Int}:cmpI n 0≠0↔n≠0:=by
 unfold cmpI;split
 ·constructor<;>intro _<;>omega
 ·split
  ·constructor<;>intro _<;>omega
  ·constructor<;>intro h
   ·exact absurd rfl h
   ·omega
theorem qN{v:Vc}{m:Int}(h1: -m<=v.1)(h2:v.1<=m)(h3: -m<=v.2)(h4:v.2<=m)(hm:0<=m/\m<=1000000):within v m:=by
 unfold within;rw[w_in (n:=0-m) Aa];omega
def rr(a b c d:Int):Rg:=[(a,b),(c,b),(c,d),(a,d)]
structure RB(a b c d:Int):Prop where
 x0:0<=a
 x1:a<c
 x2:c<=1900
 y0:0<=b
 y1:b<d
 y2:d<=1900
theorem uY{x y:Int}(hx:0<x)(hy:0<y):0<x*y:=Int.mul_pos hx hy
theorem bD6(a b c d:Int):bF (rr a b c d)=[((a,b),(c,b)),((c,b),(c,d)),((c,d),(a,d)),((a,d),(a,b))] :=Ad
theorem eU3(a b c d:Int):iU (rr a b c d) 0=(c,b):=Ad
theorem eV9(a b c d:Int):iU (rr a b c d) 1=(c,d):=Ad
theorem eU5(a b c d:Int):iU (rr a b c d) 2=(a,d):=Ad
theorem eV3(a b c d:Int):iU (rr a b c d) 3=(a,b):=Ad
theorem eV2(a b c d:Int):mY (rr a b c d) 0=(a,d):=Ad
theorem eV8(a b c d:Int):mY (rr a b c d) 1=(a,b):=Ad
theorem eU8(a b c d:Int):mY (rr a b c d) 2=(c,b):=Ad
theorem eV0(a b c d:Int):mY (rr a b c d) 3=(c,d):=Ad
theorem eL5{a b c d:Int}(h:RB a b c d):0<zY (rr a b c d):=by
 obtain⟨x0,x1,x2,y0,y1,y2⟩:=h;have s:∀n:Int,0<=n->n<=1900->Sm n:=fun n h1 h2=>⟨Aa,Aa⟩;have e1:bZ (a,b) (c,b)=a*b-b*c:=iK (s a x0 Aa) (s b y0 Aa) (s c Aa x2) (s b y0 Aa)
 have e2:bZ (c,b) (c,d)=c*d-b*c:=iK (s c Aa x2) (s b y0 Aa) (s c Aa x2) (s d Aa y2);have e3:bZ (c,d) (a,d)=c*d-d*a:=iK (s c Aa x2) (s d Aa y2) (s a x0 Aa) (s d Aa y2)
 have e4:bZ (a,d) (a,b)=a*b-d*a:=iK (s a x0 Aa) (s d Aa y2) (s a x0 Aa) (s b y0 Aa);have q1:=vG (s a x0 Aa) (s b y0 Aa)
 have q2:=vG (s b y0 Aa) (s c Aa x2);have q3:=vG (s c Aa x2) (s d Aa y2)
 have q4:=vG (s d Aa y2) (s a x0 Aa);have hA:zY (rr a b c d)=W (W (W (W (0+bZ (a,b) (c,b))+bZ (c,b) (c,d))+bZ (c,d) (a,d))+bZ (a,d) (a,b)):=Ad
 have hp:=uY (x:=c-a) (y:=d-b) Aa Aa
 have hx:(c-a)*(d-b)=c*d-b*c-d*a+a*b:=by
  rw[Int.sub_mul,Int.mul_sub,Int.mul_sub,Int.mul_comm c b,Int.mul_comm a d];omega
 rw[hA,e1,e2,e3,e4];generalize a*b=p1 at*;generalize b*c=p2 at*;generalize c*d=p3 at*;generalize d*a=p4 at*;rw[w_in (n:=0+(p1-p2)) Aa,w_in (n:=0+(p1-p2)+(p3-p2)) Aa,w_in (n:=0+(p1-p2)+(p3-p2)+(p3-p4)) Aa,w_in Aa];omega
theorem yN{u v w:Vc}(hu:0<=u.1/\u.1<=1900/\0<=u.2/\u.2<=1900)(hv:0<=v.1/\v.1<=1900/\0<=v.2/\v.2<=1900)(hw:0<=w.1/\w.1<=1900/\0<=w.2/\w.2<=1900):
 kR u v w=cmpI ((v.1-u.1)*(w.2-u.2)- (v.2-u.2)*(w.1-u.1)) 0:=by
 unfold kR;have s:∀m n:Int,0<=m->m<=1900->0<=n->n<=1900->Sm (m-n):=fun m n h1 h2 h3 h4=>⟨Aa,Aa⟩;have a1:=s v.1 u.1 Aa Aa Aa Aa
 have a2:=s v.2 u.2 Aa Aa Aa Aa;have a3:=s w.1 u.1 Aa Aa Aa Aa
 have a4:=s w.2 u.2 Aa Aa Aa Aa;rw[kN a1 a2,kN a3 a4,iK a1 a2 a3 a4]
theorem dX7{a b c d:Int}(h:RB a b c d):∀i,i< (rr a b c d).length->kR (mY (rr a b c d) i) ((rr a b c d).getD i z0) (iU (rr a b c d) i)≠0:=by
 obtain⟨x0,x1,x2,y0,y1,y2⟩:=h;intro i hi;have hi4:i<4:=hi;have h4:i=0\/i=1\/i=2\/i=3:=Aa
 rcases h4 with rfl|rfl|rfl|rfl
 ·rw[eV2,eU3]
  show kR (a,d) (a,b) (c,b)≠0;rw[yN Ai Ai Ai,tC];simp only;have:=uY (x:=c-a) (y:=d-b) Aa Aa;rw[show a-a=0 from Aa,Int.zero_mul,show b-d= -(d-b) from Aa,Int.neg_mul,Int.mul_comm (d-b)];omega
 ·rw[eV8,eV9]
  show kR (a,b) (c,b) (c,d)≠0;exact Sv
 ·rw[eU8,eU5]
  show kR (c,b) (c,d) (a,d)≠0;exact QV
 ·rw[eV0,eV3]
  show kR (c,d) (a,d) (a,b)≠0;rw[yN Ai Ai Ai,tC];simp only;have:=uY (x:=c-a) (y:=d-b) Aa Aa;rw[show d-d=0 from Aa,Int.zero_mul,show a-c= -(c-a) from Aa,show b-d= -(d-b) from Aa,Int.neg_mul_neg];omega
def On19(v:Vc):Prop:=0<=v.1/\v.1<=1900/\0<=v.2/\v.2<=1900
theorem yC{s t:Sg}(h1:On19 s.1)(h2:On19 s.2)(h3:On19 t.1)(h4:On19 t.2):jC s t=(s.2.1-s.1.1)*(t.2.2-t.1.2)- (s.2.2-s.1.2)*(t.2.1-t.1.1):=by
 unfold On19 at*;have s1:∀m n:Int,0<=m->m<=1900->0<=n->n<=1900->Sm (m-n):=fun m n h1 h2 h3 h4=>⟨Aa,Aa⟩;have a1:=s1 s.2.1 s.1.1 Aa Aa Aa Aa
 have a2:=s1 s.2.2 s.1.2 Aa Aa Aa Aa;have a3:=s1 t.2.1 t.1.1 Aa Aa Aa Aa
 have a4:=s1 t.2.2 t.1.2 Aa Aa Aa Aa;unfold jC;rw[kN a1 a2,kN a3 a4,iK a1 a2 a3 a4]
theorem cL8{s t:Sg}(h:jC s t=0)(h1:kR s.1 s.2 t.1≠0)(h2:s.1≠s.2)(h3:t.1≠t.2):dG s t=0:=by
 unfold dG kQ;split
 ·rfl
 ·rw[if_neg (fun q=>q h),if_neg (fun q=>h2 q.1),if_neg (fun q=>h3 q.1),if_pos (.inr (.inr h1))]
  rfl
theorem bL1{a b c d:Int}(h:RB a b c d):On19 (a,b)/\On19 (c,b)/\On19 (c,d)/\On19 (a,d):=by
 obtain⟨x0,x1,x2,y0,y1,y2⟩:=h;refine⟨?_,?_,?_,?_⟩<;>(unfold On19;simp only;omega)
theorem eT7{a b c d:Int}(h:RB a b c d):dG ((a,b),(c,b)) ((c,d),(a,d))=0:=by
 obtain⟨q1,q2,q3,q4⟩:=bL1 h;obtain⟨x0,x1,x2,y0,y1,y2⟩:=h;refine cL8 ?_ ?_ ?_ ?_
 ·rw[yC q1 q2 q3 q4]
  simp only;rw[show d-d=0 from Aa,show b-b=0 from Aa];simp
 ·show kR (a,b) (c,b) (c,d)≠0
  exact Sv
 ·intro e
  have:a=c:=congrArg Prod.fst e;omega
 ·intro e
  have:c=a:=congrArg Prod.fst e;omega
theorem eS9{a b c d:Int}(h:RB a b c d):dG ((c,b),(c,d)) ((a,d),(a,b))=0:=by
 obtain⟨q1,q2,q3,q4⟩:=bL1 h;obtain⟨x0,x1,x2,y0,y1,y2⟩:=h;refine cL8 ?_ ?_ ?_ ?_
 ·rw[yC q2 q3 q4 q1]
  simp only;rw[show c-c=0 from Aa,show a-a=0 from Aa];simp
 ·show kR (c,b) (c,d) (a,d)≠0
  exact QV
 ·intro e
  have:b=d:=congrArg Prod.snd e;omega
 ·intro e
  have:d=b:=congrArg Prod.snd e;omega
theorem dB7{a b c d:Int}(h:RB a b c d):dM (rr a b c d):=by
 refine⟨(by decide:3<=4),(by decide:4<=40),?_,eL5 h,dX7 h,?_⟩
 ·obtain⟨x0,x1,x2,y0,y1,y2⟩:=h
  intro v hv;have hv':v=(a,b)\/v=(c,b)\/v=(c,d)\/v=(a,d):=by simpa [rr]using hv
  rcases hv' with rfl|rfl|rfl|rfl<;>exact qN Ai Ai Ai Ai Aa
 ·intro i k hik hk
  have hk4:k<4:=hk;rw[bD6];show k≠i+1->(i≠0\/k≠4-1)->_;intro h1 h2;have hc:(i=0/\k=2)\/(i=1/\k=3):=Aa
  rcases hc with⟨rfl,rfl⟩|⟨rfl,rfl⟩
  ·exact eT7 h
  ·exact eS9 h
def rS(a b c d:Int):Sh:=⟨rr a b c d,[]⟩
theorem bC0{a b c d:Int}(h:RB a b c d):bG (rS a b c d):=by
 refine⟨Nat.zero_le 6,fun r hr=>?_,(by decide:4<=80),trivial⟩
 rw[List.mem_singleton.1 (show r∈[rr a b c d]from hr)];exact dB7 h
theorem aG2{x m:Vc}:kF x m↔x.2<m.2\/(x.2=m.2/\x.1<m.1):=by
 unfold kF vcmp orI cmpI;split<;>(try split)<;>(try split)<;>(try split)<;>(try split)<;>omega
theorem eG8{a b c d:Int}(h:RB a b c d):wL (rr a b c d)=rr a b c d:=by
 obtain⟨x0,x1,x2,y0,y1,y2⟩:=h
 have e1:wO (rr a b c d)=(a,b):=by
  show sQ (a,b) [(c,b),(c,d),(a,d)] =(a,b);rw[wF,if_neg Io,wF,if_neg Io,wF,if_neg Io];rfl
 unfold wL;rw[e1]
 have e2:sN (a,b) (rr a b c d) 0=some 0:=by
  show sN (a,b) ((a,b)::_) 0=some 0;rw[sN,if_pos rfl]
 rw[e2];show List.drop 0 (rr a b c d)++List.take 0 (rr a b c d)=_;simp
theorem cP4{a b c d:Int}(h:RB a b c d):qO (rS a b c d)=rS a b c d:=by
 rw[aN9 (bC0 h)]
 have e1:gQ (rS a b c d).outer=rr a b c d:=by
  show gQ (rr a b c d)=_;unfold gQ;rw[if_pos (dB7 h),eG8 h]
 rw[e1];rfl
theorem cL4{x:Bx}{v:Vc}(h:RB (x.1.1-v.1) (x.1.2-v.2) (x.2.1-v.1) (x.2.2-v.2)):jT x v=rS (x.1.1-v.1) (x.1.2-v.2) (x.2.1-v.1) (x.2.2-v.2):=by
 have hh:=h;obtain⟨x0,x1,x2,y0,y1,y2⟩:=h;show qO (sV (vsub x.1 v) (vsub x.2 v))=_;rw[kN ⟨Aa,Aa⟩ ⟨Aa,Aa⟩,kN ⟨Aa,Aa⟩ ⟨Aa,Aa⟩]
 have e:sV (x.1.1-v.1,x.1.2-v.2) (x.2.1-v.1,x.2.2-v.2)=rS (x.1.1-v.1) (x.1.2-v.2) (x.2.1-v.1) (x.2.2-v.2):=by
  unfold sV;rw[if_neg]
  ·rfl
  ·rintro(h|h|h|h)
   ·simp only at h;omega
   ·simp only at h;omega
   ·exact h (qN Ai Ai Ai Ai Aa)
   ·exact h (qN Ai Ai Ai Ai Aa)
 rw[e];exact cP4 hh
theorem gcd_one(n:Int):divisor n 1=1:=by
 have h:gcdI n 1=1:=by
  rw[gcdI,dif_neg Aq];have:n.tmod 1=0:=Int.tmod_one n;rw[this,gcdI,dif_pos rfl]
 unfold divisor;rw[h];decide
def Sm4(v:Vc):Prop:= -4000<=v.1/\v.1<=4000/\-4000<=v.2/\v.2<=4000
theorem within_iff{v:Vc}{m:Int}(hm:0<=m/\m<=1000000):within v m↔-m<=v.1/\v.1<=m/\-m<=v.2/\v.2<=m:=by
 unfold within;rw[w_in (n:=0-m) Aa];omega
theorem jP{s:Sg}:bI s↔Sm4 s.1/\Sm4 s.2:=by
 unfold bI;rw[within_iff Aa,within_iff Aa];exact Iff.rfl
def X(u v:Vc):Int:=u.1*v.2-u.2*v.1
def dif(u v:Vc):Vc:=(u.1-v.1,u.2-v.2)
theorem xU{p q r s:Vc}(h1:Sm4 p)(h2:Sm4 q)(h3:Sm4 r)(h4:Sm4 s):bZ (vsub p q) (vsub r s)=X (dif p q) (dif r s):=by
 unfold Sm4 at*;rw[kN ⟨Aa,Aa⟩ ⟨Aa,Aa⟩,kN ⟨Aa,Aa⟩ ⟨Aa,Aa⟩,iK ⟨Ai,Ai⟩ ⟨Ai,Ai⟩ ⟨Ai,Ai⟩ ⟨Ai,Ai⟩];rfl
theorem X_bd{p q r s:Vc}(h1:Sm4 p)(h2:Sm4 q)(h3:Sm4 r)(h4:Sm4 s): -200000000<=X (dif p q) (dif r s)/\X (dif p q) (dif r s)<=200000000:=by
 unfold Sm4 at*;unfold X dif;simp only;have q1:=vG (a:=p.1-q.1) (b:=r.2-s.2) ⟨Aa,Aa⟩ ⟨Aa,Aa⟩;have q2:=vG (a:=p.2-q.2) (b:=r.1-s.1) ⟨Aa,Aa⟩ ⟨Aa,Aa⟩
 omega
def xD(s t:Sg):Int:=X (dif s.2 s.1) (dif t.2 t.1)
def xA(s t:Sg):Int:=X (dif t.1 s.1) (dif t.2 t.1)
def xB(s t:Sg):Int:=X (dif t.1 s.1) (dif s.2 s.1)
theorem aM8{s t:Sg}(hs:bI s)(ht:bI t):jC s t=xD s t/\lX s t=xA s t/\lS s t=xB s t:=by
 obtain⟨a,b⟩:=jP.1 hs;obtain⟨c,d⟩:=jP.1 ht;exact⟨xU b a d c,xU c a d c,xU c a b a⟩
theorem bd_D{s t:Sg}(hs:bI s)(ht:bI t):(-200000000<=xD s t/\xD s t<=200000000)/\(-200000000<=xA s t/\xA s t<=200000000)/\(-200000000<=xB s t/\xB s t<=200000000):=by
 obtain⟨a,b⟩:=jP.1 hs;obtain⟨c,d⟩:=jP.1 ht;exact⟨X_bd b a d c,X_bd c a d c,X_bd c a b a⟩
def Bb(s:Sg)(p:Vc):Prop:=min s.1.1 s.2.1<=p.1/\p.1<=max s.1.1 s.2.1/\min s.1.2 s.2.2<=p.2/\p.2<=max s.1.2 s.2.2
theorem eY3(s:Sg)(p:Vc):bJ8 (aC7 [s.1,s.2]).1 p↔Bb s p:=by
 have hb:(aC7 [s.1,s.2]).1=((min s.1.1 s.2.1,min s.1.2 s.2.2),(max s.1.1 s.2.1,max s.1.2 s.2.2)):=by
  show gU (gU (s.1,s.1) s.1) s.2=_;simp only[gU];refine Prod.ext (Prod.ext ?_ ?_) (Prod.ext ?_ ?_)<;>simp only<;>omega
 rw[hb];unfold bJ8 Bb;simp only
theorem eU4{s:Sg}{p:Vc}(hs:bI s)(h:Bb s p):Sm4 p:=by
 obtain⟨a,b⟩:=jP.1 hs;unfold Sm4 Bb at*;omega
theorem gZ{s:Sg}{p:Vc}(hs:bI s):eX s p↔Bb s p/\X (dif s.2 s.1) (dif p s.1)=0:=by
 obtain⟨a,b⟩:=jP.1 hs;unfold eX;rw[eY3];constructor
 ·rintro⟨_,h1,h2⟩
  refine⟨h1,?_⟩;unfold kR at h2;rw[xU b a (eU4 hs h1) a]at h2;by_cases hz:X (dif s.2 s.1) (dif p s.1)=0
  ·exact hz
  ·exact absurd h2 (tC.2 hz)
 ·rintro⟨h1,h2⟩
  refine⟨hs,h1,?_⟩;unfold kR;rw[xU b a (eU4 hs h1) a,h2];rfl
theorem zH{a b c:Vc}(h1:Sm4 a)(h2:Sm4 b)(h3:Sm4 c):kR a b c=cmpI (X (dif b a) (dif c a)) 0:=by
 unfold kR;rw[xU h2 h1 h3 h1]
def uJ(a b d:Int):Int:=if a<0\/d<a\/b<0\/d<b then 0 else if a=0\/a=d\/b=0\/b=d then 1 else 2
theorem dI7{s t:Sg}(hs:bI s)(ht:bI t)(hd:xD s t≠0):dG s t=if xD s t<0 then uJ (0-xA s t) (0-xB s t) (0-xD s t)else uJ (xA s t) (xB s t) (xD s t):=by
 obtain⟨e1,e2,e3⟩:=aM8 hs ht;obtain⟨b1,b2,b3⟩:=bd_D hs ht;unfold dG kQ;rw[if_neg (by rintro(h|h)<;>exact h Ag),if_pos (by rw[e1];exact hd)]
 unfold lines;rw[e1,e2,e3];unfold turned;by_cases hn:xD s t<0
 ·rw[if_pos hn,if_pos hn,w_in (n:=0-xA s t) Aa,w_in (n:=0-xB s t) Aa,w_in (n:=0-xD s t) Aa]
  simp only;unfold uJ;split
  ·rfl
  ·rfl
 ·rw[if_neg hn,if_neg hn]
  simp only;unfold uJ;split
  ·rfl
  ·rfl
theorem share{d k u v p:Int}(hd:0<d)(h:d*(p-u)=k*(v-u))(h0:0<=k)(h1:k<=d):min u v<=p/\p<=max u v:=by
 rcases Int.lt_trichotomy u v with huv|huv|huv
 ·have e1:0<=k*(v-u):=Int.mul_nonneg h0 Aa
  have e2:k*(v-u)<=d*(v-u):=Int.mul_le_mul_of_nonneg_right h1 Aa
  have f1:0<=p-u:=by
   by_cases hq:0<=p-u
   ·exact hq
   ·have:=Int.mul_neg_of_pos_of_neg hd (show p-u<0 from Aa);omega
  have f2:p-u<=v-u:=Int.le_of_mul_le_mul_left (a:=d) Aa hd;omega
 ·subst huv
  rw[Int.sub_self,Int.mul_zero]at h;rcases Int.mul_eq_zero.1 h with h|h<;>omega
 ·have e1:0<=k*(u-v):=Int.mul_nonneg h0 Aa
  have e2:k*(u-v)<=d*(u-v):=Int.mul_le_mul_of_nonneg_right h1 Aa
  have h':d*(u-p)=k*(u-v):=by
   exact Tj
  have f1:0<=u-p:=by
   by_cases hq:0<=u-p
   ·exact hq
   ·have:=Int.mul_neg_of_pos_of_neg hd (show u-p<0 from Aa);omega
  have f2:u-p<=u-v:=Int.le_of_mul_le_mul_left (a:=d) Aa hd;omega
theorem eJ0{d k u v p:Int}(hd:0<d)(h:d*(p-u)=k*(v-u))(hne:u≠v)(hb:min u v<=p/\p<=max u v):0<=k/\k<=d:=by
 rcases Int.lt_or_gt_of_ne hne with huv|huv
 ·have e1:0<=d*(p-u):=Int.mul_nonneg Aa Aa
  have e2:d*(p-u)<=d*(v-u):=Int.mul_le_mul_of_nonneg_left Aa Aa;constructor
  ·by_cases hq:0<=k
   ·exact hq
   ·have:=Int.mul_neg_of_neg_of_pos (show k<0 from Aa) (show 0<v-u from Aa);omega
  ·exact Int.le_of_mul_le_mul_right (a:=v-u) Aa Aa
 ·have h':d*(u-p)=k*(u-v):=by
   exact Tj
  have e1:0<=d*(u-p):=Int.mul_nonneg Aa Aa;have e2:d*(u-p)<=d*(u-v):=Int.mul_le_mul_of_nonneg_left Aa Aa
  constructor
  ·by_cases hq:0<=k
   ·exact hq
   ·have:=Int.mul_neg_of_neg_of_pos (show k<0 from Aa) (show 0<u-v from Aa);omega
  ·exact Int.le_of_mul_le_mul_right (a:=u-v) Aa Aa
theorem nO{d k:Int}{u v p:Vc}(hd:0<d)(h1:d*(p.1-u.1)=k*(v.1-u.1))(h2:d*(p.2-u.2)=k*(v.2-u.2))(hne:u≠v):Bb (u,v) p↔0<=k/\k<=d:=by
 constructor
 ·rintro⟨b1,b2,b3,b4⟩
  by_cases h:u.1=v.1
  ·have:u.2≠v.2:=fun h'=>hne (Prod.ext h h')
   exact eJ0 hd h2 this ⟨b3,b4⟩
  ·exact eJ0 hd h1 h ⟨b1,b2⟩
 ·rintro⟨k0,k1⟩
  obtain⟨b1,b2⟩:=share hd h1 k0 k1;obtain⟨b3,b4⟩:=share hd h2 k0 k1;exact⟨b1,b2,b3,b4⟩
theorem eC4(s t:Sg):xD s t*(t.1.1-s.1.1)=xA s t*(s.2.1-s.1.1)-xB s t*(t.2.1-t.1.1)/\xD s t*(t.1.2-s.1.2)=xA s t*(s.2.2-s.1.2)-xB s t*(t.2.2-t.1.2):=by
 unfold xD xA xB X dif;simp only;constructor<;>grind
theorem vK(s t:Sg):X (dif s.2 s.1) (dif t.1 s.1)= -xB s t/\X (dif s.2 s.1) (dif t.2 s.1)=xD s t-xB s t/\X (dif t.2 t.1) (dif s.1 t.1)=xA s t/\X (dif t.2 t.1) (dif s.2 t.1)=xA s t-xD s t:=by
 unfold xD xA xB X dif;simp only;refine⟨?_,?_,?_,?_⟩<;>grind
def Com(s t:Sg)(p:Vc):Prop:=eX s p/\eX t p
def uH(s t:Sg)(p:Vc):Prop:=p=s.1\/p=s.2\/p=t.1\/p=t.2
theorem rH{s:Sg}(hs:bI s):eX s s.1:=by
 rw[gZ hs];refine⟨by unfold Bb;omega,?_⟩
 unfold X dif;simp
theorem cN1{s:Sg}(hs:bI s):eX s s.2:=by
 rw[gZ hs];refine⟨by unfold Bb;omega,?_⟩
 unfold X dif;simp only;rw[Int.mul_comm];omega
structure Cr(s t:Sg)(a b d:Int):Prop where
 pos:0<d
 e1:d*(t.1.1-s.1.1)=a*(s.2.1-s.1.1)-b*(t.2.1-t.1.1)
 e2:d*(t.1.2-s.1.2)=a*(s.2.2-s.1.2)-b*(t.2.2-t.1.2)
 kA:xA s t=0↔a=0
 kA':xA s t=xD s t↔a=d
 kB:xB s t=0↔b=0
 kB':xB s t=xD s t↔b=d
theorem eS6{s t:Sg}{a b d:Int}(hs:bI s)(ht:bI t)(hd:xD s t≠0)(h:Cr s t a b d):
 (eX t s.1↔a=0/\0<=b/\b<=d)/\(eX t s.2↔a=d/\0<=b/\b<=d)/\(eX s t.1↔b=0/\0<=a/\a<=d)/\(eX s t.2↔b=d/\0<=a/\a<=d):=by
 obtain⟨x1,x2,x3,x4⟩:=vK s t
 have hns:s.1≠s.2:=by
  intro e;apply hd;unfold xD X dif;rw[e];simp
 have hnt:t.1≠t.2:=by
  intro e;apply hd;unfold xD X dif;rw[e];simp
 obtain⟨hpos,g1,g2,kA,kA',kB,kB'⟩:=h;rw[gZ ht,gZ ht,gZ hs,gZ hs,x1,x2,x3,x4];refine⟨?_,?_,?_,?_⟩
 ·constructor
  ·rintro⟨q1,q2⟩
   have ha:=kA.1 q2;subst ha;refine⟨rfl,(nO (u:=t.1) (v:=t.2) (p:=s.1) hpos ?_ ?_ hnt).1 q1⟩
   ·grind
   ·grind
  ·rintro⟨ha,q⟩
   subst ha;refine⟨(nO (u:=t.1) (v:=t.2) (p:=s.1) hpos ?_ ?_ hnt).2 q,kA.2 rfl⟩
   ·grind
   ·grind
 ·constructor
  ·rintro⟨q1,q2⟩
   have ha:=kA'.1 Aa;subst ha;refine⟨rfl,(nO (u:=t.1) (v:=t.2) (p:=s.2) hpos ?_ ?_ hnt).1 q1⟩
   ·grind
   ·grind
  ·rintro⟨ha,q⟩
   subst ha;refine⟨(nO (u:=t.1) (v:=t.2) (p:=s.2) hpos ?_ ?_ hnt).2 q,by have:=kA'.2 rfl;omega⟩
   ·grind
   ·grind
 ·constructor
  ·rintro⟨q1,q2⟩
   have ha:=kB.1 Aa;subst ha;refine⟨rfl,(nO (u:=s.1) (v:=s.2) (p:=t.1) hpos ?_ ?_ hns).1 q1⟩
   ·grind
   ·grind
  ·rintro⟨ha,q⟩
   subst ha;refine⟨(nO (u:=s.1) (v:=s.2) (p:=t.1) hpos ?_ ?_ hns).2 q,by have:=kB.2 rfl;omega⟩
   ·grind
   ·grind
 ·constructor
  ·rintro⟨q1,q2⟩
   have ha:=kB'.1 Aa;subst ha;refine⟨rfl,(nO (u:=s.1) (v:=s.2) (p:=t.2) hpos ?_ ?_ hns).1 q1⟩
   ·grind
   ·grind
  ·rintro⟨ha,q⟩
   subst ha;refine⟨(nO (u:=s.1) (v:=s.2) (p:=t.2) hpos ?_ ?_ hns).2 q,by have:=kB'.2 rfl;omega⟩
   ·grind
   ·grind
theorem cr_of{s t:Sg}(hd:xD s t≠0):Cr s t (if xD s t<0 then 0-xA s t else xA s t) (if xD s t<0 then 0-xB s t else xB s t) (if xD s t<0 then 0-xD s t else xD s t):=by
 obtain⟨e1,e2⟩:=eC4 s t;by_cases h:xD s t<0
 ·rw[if_pos h,if_pos h,if_pos h]
  exact⟨Aa,BV,BV,Aa,Aa,Aa,Aa⟩
 ·rw[if_neg h,if_neg h,if_neg h]
  exact⟨Aa,e1,e2,Iff.rfl,Iff.rfl,Iff.rfl,Iff.rfl⟩
theorem aL3{u v w:Vc}(h1:X u w=0)(h2:X v w=0)(hw:w≠(0,0)):X u v=0:=by
 unfold X at*;by_cases h:w.1=0
 ·have hw2:w.2≠0:=fun h'=>hw (Prod.ext h h')
  have e:w.2*(u.1*v.2-u.2*v.1)=0:=by
   rw[h]at h1 h2;have a1:u.1*w.2=0:=by rw[Int.mul_zero]at h1;omega
   have a2:v.1*w.2=0:=by rw[Int.mul_zero]at h2;omega
   grind
  rcases Int.mul_eq_zero.1 e with e|e
  ·exact absurd e hw2
  ·exact e
 ·have e:w.1*(u.1*v.2-u.2*v.1)=0:=by grind
  rcases Int.mul_eq_zero.1 e with e|e
  ·exact absurd e h
  ·exact e
theorem eO4{s t:Sg}(hs:bI s)(ht:bI t)(hd:xD s t≠0){p q:Vc}(hp:Com s t p)(hq:Com s t q):p=q:=by
 by_cases h:p=q
 ·exact h
 exfalso;apply hd;have a1:=((gZ hs).1 hp.1).2;have a2:=((gZ hs).1 hq.1).2
 have b1:=((gZ ht).1 hp.2).2;have b2:=((gZ ht).1 hq.2).2
 refine aL3 (u:=dif s.2 s.1) (v:=dif t.2 t.1) (w:=dif p q) ?_ ?_ ?_
 ·have e:X (dif s.2 s.1) (dif p q)=X (dif s.2 s.1) (dif p s.1)-X (dif s.2 s.1) (dif q s.1):=by unfold X dif;simp only;grind
  rw[e,a1,a2];rfl
 ·have e:X (dif t.2 t.1) (dif p q)=X (dif t.2 t.1) (dif p t.1)-X (dif t.2 t.1) (dif q t.1):=by unfold X dif;simp only;grind
  rw[e,b1,b2];rfl
 ·intro e
  apply h;have e1:p.1-q.1=0:=congrArg Prod.fst e;have e2:p.2-q.2=0:=congrArg Prod.snd e
  exact Prod.ext Aa Aa
def zT9(s t:Sg):Prop:=kR s.1 s.2 t.1*kR s.1 s.2 t.2<0/\kR t.1 t.2 s.1*kR t.1 t.2 s.2<0
theorem cmp_neg{m n:Int}:cmpI m 0*cmpI n 0<0↔(m<0/\0<n)\/(0<m/\n<0):=by
 unfold cmpI;split<;>split<;>(try split)<;>(try split)<;>omega
theorem wY{s t:Sg}(hs:bI s)(ht:bI t):zT9 s t↔((-xB s t<0/\0<xD s t-xB s t)\/(0< -xB s t/\xD s t-xB s t<0))/\((xA s t<0/\0<xA s t-xD s t)\/(0<xA s t/\xA s t-xD s t<0)):=by
 obtain⟨a,b⟩:=jP.1 hs;obtain⟨c,d⟩:=jP.1 ht;obtain⟨x1,x2,x3,x4⟩:=vK s t;unfold zT9;rw[zH a b c,zH a b d,zH c d a,zH c d b,x1,x2,x3,x4,cmp_neg,cmp_neg]
structure bT6(s t:Sg)(k:Int):Prop where
 over:k=3↔∃p q,uH s t p/\uH s t q/\p≠q/\Com s t p/\Com s t q
 touch:(∃p,uH s t p/\Com s t p)↔k=1\/k=3
 cross:k=2↔(¬∃p,uH s t p/\Com s t p)/\zT9 s t
theorem eK8{s t:Sg}(hs:bI s)(ht:bI t)(hd:xD s t≠0):bT6 s t (dG s t):=by
 have hc:=cr_of (s:=s) (t:=t) hd;obtain⟨c1,c2,c3,c4⟩:=eS6 hs ht hd hc;have hcr:=wY hs ht
 have hk:dG s t=uJ (if xD s t<0 then 0-xA s t else xA s t) (if xD s t<0 then 0-xB s t else xB s t) (if xD s t<0 then 0-xD s t else xD s t):=by
  rw[dI7 hs ht hd];split<;>rfl
 have hpos:=hc.pos
 have hcr2:zT9 s t↔(0< (if xD s t<0 then 0-xB s t else xB s t)/\(if xD s t<0 then 0-xB s t else xB s t)< (if xD s t<0 then 0-xD s t else xD s t))/\(0< (if xD s t<0 then 0-xA s t else xA s t)/\(if xD s t<0 then 0-xA s t else xA s t)< (if xD s t<0 then 0-xD s t else xD s t)):=by
  rw[hcr];by_cases h:xD s t<0
  ·simp only[if_pos h];omega
  ·simp only[if_neg h];omega
 generalize (if xD s t<0 then 0-xA s t else xA s t)=a at*
 generalize (if xD s t<0 then 0-xB s t else xB s t)=b at*
 generalize (if xD s t<0 then 0-xD s t else xD s t)=d at*
 have hsome:(∃p,uH s t p/\Com s t p)↔uJ a b d=1:=by
  constructor
  ·rintro⟨p,hp,h1,h2⟩
   unfold uJ;rcases hp with rfl|rfl|rfl|rfl
   ·have:=c1.1 h2;rw[if_neg Aa,if_pos Aa]
   ·have:=c2.1 h2;rw[if_neg Aa,if_pos Aa]
   ·have:=c3.1 h1;rw[if_neg Aa,if_pos Aa]
   ·have:=c4.1 h1;rw[if_neg Aa,if_pos Aa]
  ·intro h
   unfold uJ at h;split at h
   ·cases h
   ·split at h
    ·rename_i n1 n2
     rcases n2 with n2|n2|n2|n2
     ·exact⟨s.1, .inl rfl,rH hs,c1.2 Aa⟩
     ·exact⟨s.2, .inr (.inl rfl),cN1 hs,c2.2 Aa⟩
     ·exact⟨t.1, .inr (.inr (.inl rfl)),c3.2 Aa,rH ht⟩
     ·exact⟨t.2, .inr (.inr (.inr rfl)),c4.2 Aa,cN1 ht⟩
    ·cases h
 have hv:uJ a b d=0\/uJ a b d=1\/uJ a b d=2:=by
  unfold uJ;split
  ·simp
  ·split<;>simp
 rw[hk];refine⟨⟨fun h=>Aa,?_⟩,?_,?_⟩
 ·rintro⟨p,q,_,_,hne,h1,h2⟩
  exact absurd (eO4 hs ht hd h1 h2) hne
 ·rw[hsome];omega
 ·rw[hsome,hcr2]
  unfold uJ;split
  ·constructor
   ·intro h;omega
   ·rintro⟨_,h⟩;omega
  ·split
   ·constructor
    ·intro h;omega
    ·rintro⟨_,h⟩;omega
   ·constructor
    ·intro _;exact⟨Aa,Aa⟩
    ·intro _;rfl
end Go.Proofs.Led
