/- Lemmas. -/
import Derived.Test.YtcmgfjaiegpddaaGreatB1
set_option linter.all false
set_option maxRecDepth 100000
set_option maxHeartbeats 4000000
noncomputable section
namespace Go.Proofs.Led
open Go Go.Proofs Go.Ab Tryz
theorem dU0{a b:Vc}:andB (eqB a.1 b.1) (andB (eqB a.2 b.2) true)=true↔a=b:=by
 rw[dE9,dE9,aA1,aA1];constructor;rintro⟨c,d,_⟩;exact Prod.ext c d;rintro rfl;exact⟨rfl,rfl,rfl⟩
def aB4{a b:Vc}{A B:Prop}(c:a=b->A)(d:a≠b->B):branch (andB (eqB a.1 b.1) (andB (eqB a.2 b.2) true)) A B:=
 jU (λh=>c (dU0.1 h)) (λh=>d (λe=>by rw[dU0.2 e]at h;cases h))
theorem eqVc(a b c d:Int):eqT T 4 84 [I a,I b] [I c,I d] =some (andB (eqB a c) (andB (eqB b d) true)):=Ac
def aT1{a b c d:Int}{K:Bool->Prop}(h:K (andB (eqB a c) (andB (eqB b d) true))):aL1.match_1 (λ_=>Prop) (eqT T 4 84 [I a,I b] [I c,I d]) K (λ_=>False):=by
 rw[eqVc];exact h
def uM{b:Int}{K:Prop}(h:b≠0)(a:K):need (b≠0) K:=fU h a
def bI9(l:List Vc)(s:l.length<=1000000):Sp 191 [.sl (l.map vcV)] (.tup [bxV (aC7 l).1, .lit (.bool (aC7 l).2)]):=by
 refine zsp func191 ?_;have k:(l.map vcV).length=l.length:=Af;cases c:l with
 |nil=>
  repeat' ((conv=>whnf);first|(exfalso;exact a rfl)|refine zS ?_|refine ze (λa=>?_) (λa=>?_))
  all_goals exact zE
 |cons x r=>
  rw[<-c];have g:l.length=r.length+1:=by rw[c];rfl
  have j:aC7 l=(l.foldl gU (x,x),true):=by rw[c];rfl
  repeat' ((conv=>whnf);first|omega|refine aF (l:=l) (A:=[]) (x:=x) (B:=r) c rfl ?_|refine zS ?_|refine ze (λa=>?_) (λa=>?_))
  refine aU (A:=List Vc) (B:=List Vc) (λD R=>mkSt [(0, .sl (l.map vcV)),(2, .box 2 0),(4, .box 4 0),(18,I l.length),(19,I D.length)] [(2,[I 0,I 0,I 0,I 0]),(4,(bxV (D.foldl gU (x,x))).cells)] [])
   (λD R=>l=D++R) (λD R=>R.length) [] l ?_ rfl (λD R f=>?_)
  exact zj;cases R with
  |nil=>
   have d:l.length=D.length:=by rw[show l=D++[]from f];simp
   have e:l=D:=by rw[show l=D++[]from f];simp
   rw[j];rw[show l.foldl gU (x,x)=D.foldl gU (x,x) by rw[e]];generalize D.foldl gU (x,x)=b;exact NC
  |cons y R=>
   have d:=aO f;have es:(D++[y]).foldl gU (x,x)=gU (D.foldl gU (x,x)) y:=by rw[QN];rfl
   have i:(D++[y]).length=D.length+1:=Af;generalize D.foldl gU (x,x)=b at es;obtain⟨⟨m,n⟩,⟨o,q⟩⟩:=b;repeat' ((conv=>whnf);first|omega|refine cC0 [(4,4),(40,4),(41,4),(62,4),(63,4),(0,999),(5,999),(34,999),(35,999),(36,999),(37,999),(56,999),(57,999),(58,999),(59,999)] Ae Ac ?_|refine zS ?_|refine zl (λhlt=>?_) (λhlt=>?_))
   conv=>whnf
   refine⟨(D++[y],R),?_,by rw[show l=D++y::R from f];simp,Af⟩;simp only[es,i];unfold gU;simp only[<-lH,<-mG];exact zj
def aM9(a b:Int):Sp 329 [I a,I b] (I (divisor a b)):=by
 refine zsp func329 ?_;repeat' ((conv=>whnf);first|refine zS ?_|fail)
 refine aU (A:=Int) (B:=Int) (λx y=>mkSt [(0,I x),(1,I y)] [] []) (λx y=>gcdI x y=gcdI a b) (λx y=>y.natAbs) a b ?_ rfl (λx y d=>?_);exact zj;have d:gcdI x y=gcdI a b:=d;by_cases c:y=0
 ·subst c
  have e:gcdI x 0=x:=by rw[gcdI];simp
  repeat' ((conv=>whnf);first|omega|refine zS ?_|refine zT ?_ ?_<;>intro _|fail)
  all_goals conv=>whnf
  refine aG ?_;unfold divisor;rw[<-d,e,mG]
 have e:gcdI x y=gcdI y (x.tmod y):=by rw[gcdI,dif_neg c]
 repeat' ((conv=>whnf);first|refine uM c ?_|omega|refine zS ?_|refine zT ?_ ?_<;>intro _|fail)
 all_goals conv=>whnf
 refine⟨(y,x.tmod y),?_,by rw[<-d,e],tmod_lt x y c⟩;exact zj
def yS(s:Sg)(p:Vc):Sp 293 [sgV s,vcV p] (DB (eX s p)):=by
 refine zsp func293 ?_;have a:=bI9 [s.1,s.2] Af;generalize d:aC7 [s.1,s.2] =c at a;obtain⟨b,ok⟩:=c;repeat' ((conv=>whnf);first|refine zc (aK1 s) ?_|refine zc (cQ7 b p) ?_|refine zc (aI8 s.1 s.2 p) ?_|refine zS ?_|refine zT ?_ ?_<;>intro _|fail)
 all_goals conv=>whnf
 all_goals refine aA ?_
 all_goals first
  |(refine sK ?_;unfold eX;simp[*];done)
  |exact aC (by unfold eX;simp[*])
def zN(p:Vc):Sp 277 [vcV p] (ptV (p.1,p.2,1)):=by
 refine zsp func277 ?_;exact zF
def vY(p:Vc):Sp 313 [vcV p] (cmV (single p)):=by
 refine zsp func313 ?_;repeat' ((conv=>whnf);first|refine zc (zN p) ?_|refine zS ?_|fail)
 all_goals exact zE
def cC6(p:Pt)(m:Int):Sp 330 [ptV p,I m] (DB (bounded p m)):=by
 refine zsp func330 ?_;repeat' ((conv=>whnf);first|refine zc (kC (p.1,p.2.1) (W (m*p.2.2))) ?_|refine zS ?_|refine zT ?_ ?_<;>intro _|fail)
 all_goals conv=>whnf
 all_goals refine aA ?_
 all_goals first
  |exact aC (by unfold bounded;omega)
  |(refine fQ ?_;unfold bounded;constructor;(·intro h;exact⟨Aa,Aa,h⟩);(·intro h;exact h.2.2))
def bW9(p:Pt):Sp 315 [ptV p] (DB (wJ p)):=by
 refine zsp func315 ?_;repeat' ((conv=>whnf);first|refine zc (cC6 p 4000) ?_|refine zc (aM9 p.1 p.2.1) ?_|refine zc (aM9 (divisor p.1 p.2.1) p.2.2) ?_|refine zS ?_|refine zT ?_ ?_<;>intro _|fail)
 all_goals conv=>whnf
 all_goals refine aA ?_
 all_goals first
  |(refine sK ?_;unfold wJ;simp[*];done)
  |exact aC (by unfold wJ;simp[*])
def eU9(n:Int):R64 (W n):=nT n
def dI2{a b d:Int}(h:a=0\/a=d\/b=0\/b=d):aH6 a b d=1:=by unfold aH6;rw[Pm h]
def dD5{a b d:Int}(h:¬(a=0\/a=d\/b=0\/b=d)):aH6 a b d=2:=by unfold aH6;rw[Ph h]
def eN0{s t:Sg}{d a b e:Int}(c:turned (lX s t) (lS s t) d=(a,b,e))(h:a<0\/e<a\/b<0\/e<b):lines s t d=cm0:=by
 unfold lines;rw[c];exact Pm h
def eT2{s t:Sg}{d a b e:Int}(c:turned (lX s t) (lS s t) d=(a,b,e))(h:¬(a<0\/e<a\/b<0\/e<b)):
 lines s t d=⟨aH6 a b e,W ((aL6 s (vsub s.2 s.1) a e).tdiv (divisor (divisor (aL6 s (vsub s.2 s.1) a e) (aP4 s (vsub s.2 s.1) a e)) e)),W ((aP4 s (vsub s.2 s.1) a e).tdiv (divisor (divisor (aL6 s (vsub s.2 s.1) a e) (aP4 s (vsub s.2 s.1) a e)) e)),W (e.tdiv (divisor (divisor (aL6 s (vsub s.2 s.1) a e) (aP4 s (vsub s.2 s.1) a e)) e)),((0,0),(0,0))⟩:=by
 unfold lines;rw[c];exact Ph h
def bD4{a b d:Int}(h:0<=d):turned a b d=(a,b,d):=by unfold turned;rw[Ph (by omega)]
def bG9{a b d:Int}(h:d<0):turned a b d=(W (0-a),W (0-b),W (0-d)):=by unfold turned;rw[Pm h]
def cT6(s t:Sg)(d:Int)(m:d≠0)(l:R64 d):Sp 312 [sgV s,sgV t,I d] (cmV (lines s t d)):=by
 refine zsp func312 ?_;have hA:=kD (vsub t.1 s.1) (vsub t.2 t.1);have hB:=kD (vsub t.1 s.1) (vsub s.2 s.1);obtain⟨q,c⟩:∃q,q=turned (lX s t) (lS s t) d:=⟨_,rfl⟩;obtain⟨a,b,e⟩:=q;have i:aL6 s (vsub s.2 s.1) a e=W (W (s.1.1*e)+W (a*(vsub s.2 s.1).1)):=rfl;have j:aP4 s (vsub s.2 s.1) a e=W (W (s.1.2*e)+W (a*(vsub s.2 s.1).2)):=rfl
 have k:e≠0/\R64 e:=by
  rcases Int.lt_or_le d 0 with h|h;rw[bG9 h]at c;cases c;refine⟨?_,nT _⟩;unfold R64 at l;by_cases n:d= -9223372036854775808;subst n;decide;rw[w_in Aa];omega;rw[bD4 h]at c;cases c;exact⟨m,l⟩
 have hg:divisor (divisor (aL6 s (vsub s.2 s.1) a e) (aP4 s (vsub s.2 s.1) a e)) e≠0:=λh=>
  k.1 (cB4 (bO1 (eU9 _) (eU9 _)) k.2 h).2
 have l0:=eN0 c.symm;have l1:=eT2 c.symm;have g1:=aM9 (aL6 s (vsub s.2 s.1) a e) (aP4 s (vsub s.2 s.1) a e);have g2:=aM9 (divisor (aL6 s (vsub s.2 s.1) a e) (aP4 s (vsub s.2 s.1) a e)) e;rw[i,j]at g1 g2 hg l1
 have neg:d<0->e=W (0-d)/\a=W (0-lX s t)/\b=W (0-lS s t):=λh=>by
  rw[bG9 h]at c;cases c;exact⟨rfl,rfl,rfl⟩
 have pos:0<=d->e=d/\a=lX s t/\b=lS s t:=λh=>by
  rw[bD4 h]at c;cases c;exact⟨rfl,rfl,rfl⟩
 clear i j c;unfold lX lS at neg pos;rcases Int.lt_or_le d 0 with f|g;obtain⟨rfl,rfl,rfl⟩:=neg f;exact Lm;obtain⟨rfl,rfl,rfl⟩:=pos g;exact Lm
theorem cZ7{s:Sg}(h:kF s.2 s.1):ordS s=(s.2,s.1):=by unfold ordS;rw[Pm h]
theorem cY4{s:Sg}(h:¬kF s.2 s.1):ordS s=s:=by unfold ordS;rw[Ph h]
def bK6(s t s' t':Sg)(k:Nat):List V:=match k with
 |0=> [I s.1.1,I s.1.2,I s.2.1,I s.2.2,I t.1.1,I t.1.2,I t.2.1,I t.2.2]
 |1=> [I s'.1.1,I s'.1.2,I s'.2.1,I s'.2.2,I t.1.1,I t.1.2,I t.2.1,I t.2.2]
 |_=> [I s'.1.1,I s'.1.2,I s'.2.1,I s'.2.2,I t'.1.1,I t'.1.2,I t'.2.1,I t'.2.2]
def twoK(k:Nat):Int:=match k with
 |0=>0
 |1=>2
 |_=>4
def fD1{s t:Sg}(h:¬bI s\/¬bI t):kQ s t=cm0:=by unfold kQ;rw[Pm h]
section
variable{s t:Sg}(hs:bI s)(ht:bI t)
def fA1(hs:bI s)(ht:bI t)(h:jC s t≠0):kQ s t=lines s t (jC s t):=by unfold kQ;rw[Ph (by simp[hs,ht]),Pm h]
def eX5(hs:bI s)(ht:bI t)(h:jC s t=0)(a:s.1=s.2)(b:eX t s.1):kQ s t=single s.1:=by unfold kQ;rw[Ph (by simp[hs,ht]),Ph (by simp[h]),Pm ⟨a,b⟩]
def fC4(hs:bI s)(ht:bI t)(h:jC s t=0)(a:¬(s.1=s.2/\eX t s.1))(b:t.1=t.2)(c:eX s t.1):kQ s t=single t.1:=by unfold kQ;rw[Ph (by simp[hs,ht]),Ph (by simp[h]),Ph a,Pm ⟨b,c⟩]
def eY1(hs:bI s)(ht:bI t)(h:jC s t=0)(a:¬(s.1=s.2/\eX t s.1))(b:¬(t.1=t.2/\eX s t.1))(c:s.1=s.2\/t.1=t.2\/kR s.1 s.2 t.1≠0):kQ s t=cm0:=by unfold kQ;rw[Ph (by simp[hs,ht]),Ph (by simp[h]),Ph a,Ph b,Pm c]
def fA2(hs:bI s)(ht:bI t)(h:jC s t=0)(a:¬(s.1=s.2\/t.1=t.2\/kR s.1 s.2 t.1≠0)):kQ s t=yD (hiLo (ordS s) (ordS t)):=by
 unfold kQ;simp_all
end
def eT6{s t:Sg}(a:kF s.1 t.1)(b:kF t.2 s.2):hiLo s t=(t.1,t.2):=by unfold hiLo;rw[Pm a,Pm b]
def eN5{s t:Sg}(a:kF s.1 t.1)(b:¬kF t.2 s.2):hiLo s t=(t.1,s.2):=by unfold hiLo;rw[Pm a,Ph b]
def eN6{s t:Sg}(a:¬kF s.1 t.1)(b:kF t.2 s.2):hiLo s t=(s.1,t.2):=by unfold hiLo;rw[Ph a,Pm b]
def eT1{s t:Sg}(a:¬kF s.1 t.1)(b:¬kF t.2 s.2):hiLo s t=(s.1,s.2):=by unfold hiLo;rw[Ph a,Ph b]
def eX9{a b:Vc}(h:vcmp a b=0):yD (a,b)=single a:=by unfold yD;rw[Pm h]
def eX0{a b:Vc}(h:vcmp a b= -1):yD (a,b)=⟨3,0,0,0,(a,b)⟩:=by unfold yD;rw[Ph (by show vcmp a b≠0;omega),Pm h]
def fC8{a b:Vc}(h:vcmp a b≠0)(c:vcmp a b≠-1):yD (a,b)=cm0:=by unfold yD;rw[Ph h,Ph c]
def cU7(s t:Sg):Sp 274 [sgV s,sgV t] (cmV (kQ s t)):=by
 refine zsp func274 ?_;have r:=kD (vsub s.2 s.1) (vsub t.2 t.1);have i:R64 (jC s t):=nT _;rw[show bZ (vsub s.2 s.1) (vsub t.2 t.1)=jC s t from rfl]at r;have u:=fD1 (s:=s) (t:=t);have v:=fA1 (s:=s) (t:=t);have w:=eX5 (s:=s) (t:=t);have x:=fC4 (s:=s) (t:=t);have y:=eY1 (s:=s) (t:=t);have z:=fA2 (s:=s) (t:=t);have C:=λa=>cT6 s t (jC s t) a i;generalize N:kQ s t=M at*;generalize D:jC s t=B at*;generalize lines s t B=K at*;generalize b:hiLo (ordS s) (ordS t)=F at*;repeat' ((conv=>whnf);first|(exfalso;contradiction)|refine zc (aK1 s) ?_|refine zc (aK1 t) ?_|refine zc (fF s.2 s.1) ?_|refine zc (fF t.2 t.1) ?_|refine zc r ?_|refine zc (C Ah) ?_|refine aT1 ?_|refine aB4 (λhv=>?_) (λhv=>?_)|refine zc (yS t s.1) ?_|refine zc (yS s t.1) ?_|refine zc (vY s.1) ?_|refine zc (vY t.1) ?_|refine zc (aI8 s.1 s.2 t.1) ?_|refine zS ?_|refine zd (λa=>?_) (λa=>?_)|refine ze (λd=>?_) (λd=>?_))
 all_goals conv=>whnf
 all_goals first
  |(rw[u F8];refine⟨?_,rfl,λe h=>V.noConfusion h⟩;(repeat' (first|exact trivial|refine And.intro ?_ ?_|with_reducible rfl|exact(λh=>Ag)|exact rfl));done)
  |(rw[v Ah Ah Ah];refine⟨?_,rfl,λe h=>V.noConfusion h⟩;(repeat' (first|exact trivial|refine And.intro ?_ ?_|with_reducible rfl|exact(λh=>Ag)|exact rfl));done)
  |(rw[w Ah Ah Aa Ah Ah];refine⟨?_,rfl,λe h=>V.noConfusion h⟩;(repeat' (first|exact trivial|refine And.intro ?_ ?_|with_reducible rfl|exact(λh=>Ag)|exact rfl));done)
  |(rw[x Ah Ah Aa (λq=>EJ) Ah Ah];refine⟨?_,rfl,λe h=>V.noConfusion h⟩;(repeat' (first|exact trivial|refine And.intro ?_ ?_|with_reducible rfl|exact(λh=>Ag)|exact rfl));done)
  |(rw[y Ah Ah Aa (λq=>EJ) (λq=>EJ) (by first|exact .inl ‹_› |exact .inr (.inl ‹_›)|exact .inr (.inr ‹_›))];refine⟨?_,rfl,λe h=>V.noConfusion h⟩;(repeat' (first|exact trivial|refine And.intro ?_ ?_|with_reducible rfl|exact(λh=>Ag)|exact rfl));done)
  |skip
 have j:M=yD F:=z Ah Ah Aa (by rintro(q|q|q)<;>first|contradiction|omega);clear u v w x y z
 refine lD (A:=Nat) (λk=>mkSt [(0,sgV s),(1,sgV t),(2, .box 2 0),(3, .box 3 0),(4, .box 4 0),(6, .box 6 0),(7,I (twoK k))] [(2,(sgV s).cells),(3,(sgV t).cells),(4,(cmV cm0).cells),(6,bK6 s t (ordS s) (ordS t) k)] [])
  (λk=>k<=2) (λk=>2-k) 0 ?_ Aa (λk E=>?_)
 exact zj;have m:=cZ7 (s:=s);have l:=cY4 (s:=s);have o:=cZ7 (s:=t);have n:=cY4 (s:=t);have G:twoK 0=0:=rfl;have H:twoK 1=2:=rfl;have J:twoK 2=4:=rfl;have L:(2:Int)=twoK 1:=rfl;match k,E with
 |0,_=>
  repeat' ((conv=>whnf);first|omega|refine zc (yQ s.2 s.1) ?_|refine zS ?_|refine zd (λa=>?_) (λa=>?_)|refine zl (λc=>?_) (λc=>?_))
  all_goals conv=>whnf
  refine⟨1,?_,Aa,Aa⟩;unfold bK6;rw[m a];exact zj;refine⟨1,?_,Aa,Aa⟩;unfold bK6;rw[l a];exact zj
 |1,_=>
  repeat' ((conv=>whnf);first|omega|refine zc (yQ t.2 t.1) ?_|refine zS ?_|refine zd (λa=>?_) (λa=>?_)|refine zl (λc=>?_) (λc=>?_))
  all_goals conv=>whnf
  refine⟨2,?_,Aa,Aa⟩;unfold bK6;rw[o a];exact zj;refine⟨2,?_,Aa,Aa⟩;unfold bK6;rw[n a];exact zj
 |2,_=>
  generalize ordS s=f at*;generalize ordS t=g at*;repeat' ((conv=>whnf);first|omega|refine cC0 [(6,6),(8,8),(9,9),(123,6),(125,6)] Ae Ac ?_|refine zc (yQ f.1 g.1) ?_|refine zc (yQ g.2 f.2) ?_|refine zc (qI f.1 f.2) ?_|refine zc (qI f.1 g.2) ?_|refine zc (qI g.1 f.2) ?_|refine zc (qI g.1 g.2) ?_|refine zc (vY f.1) ?_|refine zc (vY g.1) ?_|refine zS ?_|refine zd (λa=>?_) (λa=>?_)|refine zl (λc=>?_) (λc=>?_)|refine ze (λd=>?_) (λd=>?_))
  all_goals conv=>whnf
  all_goals
   first
   |rw[eT6 Ah Ah]at b
   |rw[eN5 Ah Ah]at b
   |rw[eN6 Ah Ah]at b
   |rw[eT1 Ah Ah]at b
   subst b
  all_goals first
   |(rw[j,eX9 Ah];refine⟨?_,rfl,λe h=>V.noConfusion h⟩;(repeat' (first|exact trivial|refine And.intro ?_ ?_|with_reducible rfl|exact(λh=>Ag)|exact rfl));done)
   |(rw[j,eX0 Ah];refine⟨?_,rfl,λe h=>V.noConfusion h⟩;(repeat' (first|exact trivial|refine And.intro ?_ ?_|with_reducible rfl|exact(λh=>Ag)|exact rfl));done)
   |(rw[j,fC8 Ah Ah];refine⟨?_,rfl,λe h=>V.noConfusion h⟩;(repeat' (first|exact trivial|refine And.intro ?_ ?_|with_reducible rfl|exact(λh=>Ag)|exact rfl));done)
def fB5{g:FuncId}{Q:Vc->Prop}(hg:∀m,Sp g (vcV m:: []) (DB (Q m)))(l:List Vc)(b:l.length<=1000000):fnVC T Tryz.prog Tryz.f290 [.sl (l.map vcV), .fn g []] (I (fstI Q l)):=by
 have a:(l.map vcV).length=l.length:=Af;repeat' ((conv=>whnf);first|refine zS ?_|fail)
 refine aU (A:=List Vc) (B:=List Vc) (λD R=>mkSt [(0, .sl (l.map vcV)),(1, .fn g []),(7,I l.length),(8,I D.length)] [] [])
  (λD R=>l=D++R/\∀m∈D,¬Q m) (λD R=>R.length) [] l ?_ ⟨rfl,Af⟩ (λD R hp=>?_)
 exact zj;exact Hz
def eI1{g:FuncId}{Q:Vc->Prop}(a:∀m,Sp g (vcV m:: []) (DB (Q m)))(l:List Vc)(b:l.length<=1000000):Sp 290 [.sl (l.map vcV), .fn g []] (I (fstI Q l)):=zsp func290 (fB5 a l b)
def fC1{g:FuncId}{Q:Vc->Prop}(a:∀m,Sp g (vcV m:: []) (DB (Q m)))(l:List Vc)(b:l.length<=1000000):fnVC T Tryz.prog Tryz.f241 [.sl (l.map vcV), .fn g []] (DB (∃m∈l,Q m)):=by
 repeat' ((conv=>whnf);first|refine zc (eI1 a l b) ?_|refine zS ?_|fail)
 exact Lp
def dV4{g:FuncId}{Q:Vc->Prop}(a:∀m,Sp g (vcV m:: []) (DB (Q m)))(l:List Vc)(b:l.length<=1000000):Sp 241 [.sl (l.map vcV), .fn g []] (DB (∃m∈l,Q m)):=zsp func241 (fC1 a l b)
def aS9(s t:Sg):Sp 228 [sgV s,sgV t] (I (dG s t)):=by
 refine zsp func228 ?_;repeat' ((conv=>whnf);first|refine zc (cU7 s t) ?_|refine zS ?_|fail)
 all_goals exact zE
def eD9(v:Vc):Sp 271 [vcV v] (DB (¬within v 2000)):=by
 refine zsp func271 ?_;repeat' ((conv=>whnf);first|refine zc (kC v 2000) ?_|refine zS ?_|fail)
 all_goals conv=>whnf
 all_goals refine aA (aF6 dW)
def dS7(r:Rg)(a:r.length<=1000000):Sp 223 [rgV r] (DB (bR7 r)):=by
 refine zsp func223 ?_;repeat' ((conv=>whnf);first|refine zc (dV4 (λv=>eD9 v) r a) ?_|refine zS ?_|fail)
 all_goals conv=>whnf
 all_goals refine aA (aF6 ?_)
 rw[dW];unfold bR7;constructor;intro h v hv;exact OI;rintro h ⟨v,hv,hn⟩;exact hn (h v hv)
def dX5{z:Int}{a n:Nat}(h:z=(a:Int)):z.tmod (n:Int)=((a% n:Nat):Int):=by
 grind
def getD_some{r:Rg}{k:Nat}(h:k<r.length):r[k]? =some (r.getD k z0):=by
 simp_all
def sW{r:Rg}{z:Int}{k:Nat}{K:V->Prop}(b:z=(k:Int))(h:k<r.length)(a:K (vcV (r.getD k z0))):idx (r.map vcV) z.toNat K:=
 gK (l:=r) (getD_some h) Aa a
def kS{r:Rg}{z:Int}{a:Nat}(h:z=(a:Int)):z.tmod ((r.map vcV).length:Int)=((a% r.length:Nat):Int):=by rw[eT0,dX5 h]
def aR7(r:Rg)(i:Nat)(hi:i<r.length)(d:r.length<=1000000):Sp 226 [rgV r,I i] (vcV (iU r i)):=by
 refine zsp func226 ?_;have b:(r.map vcV).length=r.length:=Af;have c:(i+1)% r.length<r.length:=QE _ Aa;repeat' ((conv=>whnf);first|refine uM Aa ?_|refine aB (l:=r) (by rw[kS (a:=i+1) (by omega)];omega) ?_|refine sW (k:=(i+1)% r.length) (kS Aa) c ?_|refine zS ?_|fail)
 all_goals exact zE
def dJ5(r:Rg)(i:Nat)(hi:i<r.length)(d:r.length<=1000000):Sp 225 [rgV r,I i] (vcV (mY r i)):=by
 refine zsp func225 ?_;have b:(r.map vcV).length=r.length:=Af;have c:(i+r.length-1)% r.length<r.length:=QE _ Aa;repeat' ((conv=>whnf);first|refine uM Aa ?_|refine aB (l:=r) (by rw[kS (a:=i+r.length-1) (by omega)];omega) ?_|refine sW (k:=(i+r.length-1)% r.length) (kS Aa) c ?_|refine zS ?_|fail)
 all_goals exact zE
def aU3{r:Rg}{z:Int}{k:Nat}{K:V->Prop}(b:z=(k:Int))(h:k<r.length)(a:K (vcV (r.getD k z0))):idx (r.map vcV) z.toNat K:=sW b h a
def bT2(r:Rg)(b:r.length<=1000000):Sp 208 [rgV r] (I (zY r)):=by
 refine zsp func208 ?_;have c:(r.map vcV).length=r.length:=Af;repeat' ((conv=>whnf);first|refine zS ?_|fail)
 refine lD (A:=Nat) (λk=>mkSt [(0,rgV r),(3,I (cI8 r k)),(6,rgV r),(7,I r.length),(8,I k)] [] []) (λk=>k<=r.length) (λk=>r.length-k) 0 ?_ Aa (λk g=>?_);exact zj;have d:=aR7 r k;have f:=bC2 r k;by_cases a:k<r.length
 ·repeat' ((conv=>whnf);first|omega|refine aU3 (k:=k) Aa a ?_|refine zc (d a b) ?_|refine zc (kD (r.getD k z0) (iU r k)) ?_|refine zS ?_|refine zT ?_ ?_<;>intro _|fail)
  all_goals conv=>whnf
  refine⟨k+1,?_,Aa,Aa⟩;simp only[f];exact zj
 have e:k=r.length:=by omega
 subst e;exact zF
def aH8(r:Rg)(k:Nat):List Sg:=(List.range k).map (aJ4 r)
def cS0(r:Rg)(k:Nat):(aH8 r k).map sgV++[sgV (aJ4 r k)] =(aH8 r (k+1)).map sgV:=by unfold aH8;rw[List.range_succ];simp
def bV5(r:Rg)(k:Nat):((aH8 r k).map sgV).length=k:=by unfold aH8;simp
def eX7(r:Rg)(k:Nat):St:=match k with
 |0=>mkSt [(0,rgV r),(3,nilV),(9,rgV r),(10,I r.length),(11,I 0)] [] []
 |k+1=>mkSt [(0,rgV r),(3, .arr 23 k),(9,rgV r),(10,I r.length),(11,I ((k:Int)+1))] [] [(23,⟨k, .own,275,(aH8 r (k+1)).map sgV⟩)]
def cK3{r:Rg}(h:r.length<2):bF r=[] :=Pm h
def bA9{r:Rg}(h:¬r.length<2):bF r=aH8 r r.length:=Ph h
def qE(r:Rg)(c:r.length<=1000000):Sp 227 [rgV r] (.own 275 ((bF r).map sgV)):=by
 refine zsp func227 ?_;have m:(r.map vcV).length=r.length:=Af;have i:=cK3 (r:=r);have j:=bA9 (r:=r);by_cases g:r.length<2
 ·rw[i g]
  repeat' ((conv=>whnf);first|omega|refine zS ?_|refine zT ?_ ?_<;>intro _|fail)
  all_goals conv=>whnf
  exact⟨⟨⟨OZ Ac,rfl⟩,trivial⟩,rfl,λ_ h=>Ag⟩
 rw[j g];repeat' ((conv=>whnf);first|omega|refine zS ?_|refine zT ?_ ?_<;>intro _|fail)
 refine lD (A:=Nat) (eX7 r) (λk=>k<=r.length) (λk=>r.length-k) 0 ?_ Aa (λk o=>?_);exact zj;have f:=aR7 r k;have n:=cS0 r k;have d:=bV5 r k;match k with
 |0=>
  repeat' ((conv=>whnf);first|omega|refine aU3 (k:=0) Aa Aa ?_|refine zc (f Aa c) ?_|refine fU ⟨OZ Ac,OZ Ac,dA rfl⟩ ?_|refine zS ?_|refine zT ?_ ?_<;>intro _|fail)
  all_goals conv=>whnf
  refine⟨1,?_,Aa,Aa⟩;exact zj
 |k+1=>
  have b:=bV5 r (k+1);have l:(List.map sgV (aH8 r (k+1))).length+1<=1000000000:=Aa;by_cases a:k+1<r.length
  ·repeat' ((conv=>whnf);first|omega|refine aU3 (k:=k+1) Aa a ?_|refine zc (f a c) ?_|refine iH rfl (.inl rfl) rfl (OZ rfl) (dA rfl) l ?_|refine zS ?_|refine zT ?_ ?_<;>intro _|fail)
   all_goals conv=>whnf
   refine⟨k+2,?_,Aa,Aa⟩;show Le T _ (mkSt [(0,rgV r),(3, .arr 23 (k+1)),(9,rgV r),(10,I r.length),(11,I (((k+1:Nat):Int)+1))] [] [(23,⟨k+1, .own,275,(aH8 r (k+1+1)).map sgV⟩)]);rw[<-n];exact zj
  have e:k+1=r.length:=by omega
  rw[<-e];exact MS
def dT0{r:Rg}(h:2<=r.length):(bF r).length=r.length:=by
 rw[bA9 Aa];simp[aH8]
def dS{en:AE}{g:Nat}{z:Int}{K:Prop}(b:en.gen=g)(c:en.kind= .own)(a:0<=z/\z<en.l.length)(d:K):need (en.gen=g/\en.kind≠ .dead/\0<=z/\z<en.l.length) K:=fU ⟨b,(by rw[c];exact λh=>by cases h),a.1,a.2⟩ d
def dV6{l:List Sg}{z:Int}{k:Nat}{K:V->Prop}(b:z=(k:Int))(h:k<l.length)(a:K (sgV (l.getD k (z0,z0)))):idx (l.map sgV) z.toNat K:=by
 subst b;refine gK (l:=l) (j:=k) (x:=l.getD k (z0,z0)) ?_ Aa a;exact O4
def lN(r:Rg)(m:r.length<=1000000):Sp 182 [rgV r] (DB (dM r)):=by
 refine zsp func182 ?_;have F:(r.map vcV).length=r.length:=Af;generalize hP:dM r=P;have n:P↔dM r:=FX;unfold dM at n;repeat' ((conv=>whnf);first|refine zc (dS7 r m) ?_|refine zc (bT2 r m) ?_|refine zS ?_|refine zT ?_ ?_<;>intro _|fail)
 all_goals conv=>whnf
 all_goals first
  |(refine aA (aC ?_);rw[n];intro h;obtain⟨f,c,o,H,J,K⟩:=h;first|omega|contradiction)
  |skip
 have o:3<=r.length:=Aa;have q:r.length<=40:=Aa;have G:bR7 r:=Ah;have z:0<zY r:=Aa;refine lD (A:=Nat) (λk=>mkSt [(0,rgV r),(3,I r.length),(27,rgV r),(28,I r.length),(29,I k)] [] []) (λk=>k<=r.length/\∀i,i<k->kR (mY r i) (r.getD i z0) (iU r i)≠0) (λk=>r.length-k) 0 ?_ ⟨Aa,λi hi=>Aa⟩ (λk l=>?_);exact zj;obtain⟨l,u⟩:=l;have v:=aR7 r k;have w:=dJ5 r k;by_cases b:k<r.length
 ·repeat' ((conv=>whnf);first|omega|refine aU3 (k:=k) Aa b ?_|refine zc (v b m) ?_|refine zc (w b m) ?_|refine zc (aI8 (mY r k) (r.getD k z0) (iU r k)) ?_|refine zS ?_|refine zT ?_ ?_<;>intro _|fail)
  all_goals conv=>whnf
  refine aA (aC ?_);rw[n];intro h;exact h.2.2.2.2.1 k b Ah;refine⟨k+1,?_,⟨Aa,λi hi=>?_⟩,Aa⟩;exact zj;by_cases e:i=k;subst e;assumption;exact u i Aa
 have y:k=r.length:=Aa;subst y;have s:=dT0 (r:=r) Aa;have B:=qE r m;generalize L:bF r=E at*;have C:(E.map sgV).length=r.length:=by rw[P6];exact s
 repeat' ((conv=>whnf);first|omega|refine zS ?_|refine zT ?_ ?_<;>intro _|fail)
 refine lD (A:=Nat) (λi=>mkSt [(3,I r.length),(6, .arr 45 0),(46,I r.length),(47,I i)] [] [(45,⟨0, .own,275,E.map sgV⟩)]) (λi=>i<=r.length/\∀d a,d<i->d<a->a<r.length->cZ4 E r.length d a) (λi=>r.length-i) 0 ?_ ⟨Aa,λd a hi=>Aa⟩ (λi hi=>?_);exact zj;obtain⟨hi,g⟩:=hi;by_cases D:i<r.length
 ·repeat' ((conv=>whnf);first|omega|refine zS ?_|refine zT ?_ ?_<;>intro _|fail)
  refine lD (A:=Nat) (λk=>mkSt [(3,I r.length),(6, .arr 45 0),(46,I r.length),(47,I i),(7,I i),(8,I k)] [] [(45,⟨0, .own,275,E.map sgV⟩)]) (λk=>i<k/\k<=r.length/\∀a,i<a->a<k->cZ4 E r.length i a) (λk=>r.length-k) (i+1) ?_ ⟨Aa,Aa,λa f c=>Aa⟩ (λk l=>?_);exact zj;obtain⟨t,l,j⟩:=l;by_cases b:k<r.length
  ·repeat' ((conv=>whnf);first|omega|refine dS rfl rfl (by show 0<=_/\_< ((E.map sgV).length:Int);omega) ?_|refine dV6 (k:=i) Aa Aa ?_|refine dV6 (k:=k) Aa Aa ?_|refine zc (aS9 (E.getD i (z0,z0)) (E.getD k (z0,z0))) ?_|refine zS ?_|refine zT ?_ ?_<;>intro _|fail)
   all_goals conv=>whnf
   all_goals first
    |(refine aA (aC ?_);rw[n];intro h;exact absurd (h.2.2.2.2.2 i k t b Aa Aa) Ah)
    |skip
   all_goals
    refine⟨k+1,?_,⟨Aa,Aa,λa f c=>?_⟩,Aa⟩
    ·exact zj
    ·by_cases e:a=k
     ·subst e
      intro M N;first|assumption|omega
     ·exact j a f Aa
  repeat' ((conv=>whnf);first|omega|refine zS ?_|refine zT ?_ ?_<;>intro _|fail)
  all_goals conv=>whnf
  refine⟨i+1,?_,⟨Aa,λd a f c o=>?_⟩,Aa⟩;exact zj;by_cases e:d=i;subst e;exact j a c Aa;exact g d a Aa c o
 have x:i=r.length:=by omega
 subst x;repeat' ((conv=>whnf);first|omega|refine zS ?_|refine zT ?_ ?_<;>intro _|fail)
 all_goals conv=>whnf
 refine aA (fE ?_);rw[n];exact⟨o,q,G,z,u,λi k f c=>g i k Aa f c⟩
def eA0{r:Rg}(h:dM r):nG r=zY r:=Pm h
def dX4{r:Rg}(h:¬dM r):nG r=0:=Ph h
def aX1(r:Rg)(a:r.length<=1000000):Sp 172 [rgV r] (I (nG r)):=by
 refine zsp func172 ?_;have b:=eA0 (r:=r);have c:=dX4 (r:=r);generalize nG r=A at*;repeat' ((conv=>whnf);first|refine zc (lN r a) ?_|refine zc (bT2 r a) ?_|refine zS ?_|refine zT ?_ ?_<;>intro _|fail)
 all_goals conv=>whnf
 all_goals first
  |exact aG (c Ah).symm
  |exact aG (b Ah).symm
def cM0(p:Pt)(v:Vc):Sp 316 [vcV v, .fp (ptV p).cells] (vcV (toP p v)):=by
 refine zsp func316 ?_;exact MH
theorem dT8{a b:Bool}:eqBB a b=true↔a=b:=by unfold eqBB;simp
def br_ll{a b:Int}{A B:Prop}(c:(0<=a↔0<=b)->A)(d:¬(0<=a↔0<=b)->B):branch (eqBB (leB 0 a) (leB 0 b)) A B:=by
 have e:eqBB (leB 0 a) (leB 0 b)=true↔(0<=a↔0<=b):=by rw[dT8,Qv,bV6,bV6]
 grind [jU]
def br_l2{a b:Int}{A B:Prop}(c:(0<=a↔0<b)->A)(d:¬(0<=a↔0<b)->B):branch (eqBB (leB 0 a) (ltB 0 b)) A B:=by
 have e:eqBB (leB 0 a) (ltB 0 b)=true↔(0<=a↔0<b):=by rw[dT8,Qv,bV6,dC8]
 grind [jU]
theorem qB(p:Pt):∀b:Bool,lU p [] b=if b=true then 2 else 0:=λb=>by unfold lU;rfl
def oP{p:Pt}{e:Sg}{es:List Sg}{b:Bool}(h:onE p e):lU p (e::es) b=1:=by
 rw[lU,Pm h]
theorem rE{p:Pt}{e:Sg}{es:List Sg}{b:Bool}(h:¬onE p e)(a:rW p e):lU p (e::es) b=lU p es (!b):=by
 rw[lU,Ph h,Pm a]
theorem jD{p:Pt}{e:Sg}{es:List Sg}{b:Bool}(h:¬onE p e)(a:¬rW p e):lU p (e::es) b=lU p es b:=by
 rw[lU,Ph h,Ph a]
def eA4{r:Rg}{p:Pt}(h:¬dM r\/¬wJ p):iF r p=0:=Ph (λq=>by rcases h with h|h<;>simp_all)
def aD9{r:Rg}{p:Pt}(h:dM r)(a:wJ p):iF r p=lU p (bF r) false:=Pm ⟨h,a⟩
def aB7(r:Rg)(p:Pt)(s:r.length<=1000000):Sp 276 [rgV r,ptV p] (I (iF r p)):=by
 refine zsp func276 ?_;have m:=eA4 (r:=r) (p:=p);have n:=aD9 (r:=r) (p:=p);have g:=qE r s;generalize iF r p=A at*;generalize o:bF r=E at*;repeat' ((conv=>whnf);first|refine zc (lN r s) ?_|refine zc (bW9 p) ?_|refine zc g ?_|refine zS ?_|refine zT ?_ ?_<;>intro _|fail)
 all_goals conv=>whnf
 all_goals first
  |exact aG (m F8).symm
  |skip
 have y:=n Ah Ah;clear m n
 have z:E.length<=1000000:=by
  rw[<-o];unfold bF;split<;>simp;omega
 clear o g;refine oU (A:=List Sg) (B:=List Sg) (C:=Bool) (λD R b=>mkSt [(5, .fn 316 [.fp (ptV p).cells]),(6, .lit (.bool b)),(23, .arr 23 0),(24,I E.length),(25,I D.length)] [] [(23,⟨0, .own,275,E.map sgV⟩)]) (λD R b=>E=D++R/\A=lU p R b) (λD R b=>R.length) [] E false ?_ ⟨rfl,y⟩ (λD R b hp=>?_);exact Ij;obtain⟨hp,k⟩:=hp;cases R with
 |nil=>
  have j:E.length=D.length:=Ad;rw[qB]at k;repeat' ((conv=>whnf);first|omega|refine zS ?_|refine zT ?_ ?_<;>intro _|fail)
  all_goals conv=>whnf
  all_goals exact aG (by rw[k];simp[*])
 |cons e R=>
  have j:=aO hp;have u:=oP (p:=p) (e:=e) (es:=R) (b:=b);have v:=rE (p:=p) (e:=e) (es:=R) (b:=b);have w:=jD (p:=p) (e:=e) (es:=R) (b:=b);rw[<-k]at u v w;have H:=kD (vsub e.2 e.1) (toP p e.1);have d:onE p e↔bZ (vsub e.2 e.1) (toP p e.1)=0/\_:=Qn;have i:rW p e↔¬(0<=(toP p e.1).2↔0<=(toP p e.2).2)/\(0<=(toP p e.1).2↔0<bZ (vsub e.2 e.1) (toP p e.1)):=Qn;simp only[<-lH,<-mG]at d;generalize bZ (vsub e.2 e.1) (toP p e.1)=t at*;have F:=cM0 p e.1;have G:=cM0 p e.2;generalize toP p e.1=a at*;generalize toP p e.2=c at*;repeat' ((conv=>whnf);first|omega|refine dS rfl rfl (by show 0<=_/\_< ((E.map sgV).length:Int);rw[P6];omega) ?_|refine aF (l:=E) (A:=D) (x:=e) (B:=R) hp Aa ?_|refine zc F ?_|refine zc G ?_|refine zc (fF e.2 e.1) ?_|refine zc H ?_|refine br_ll (λf=>?_) (λf=>?_)|refine br_l2 (λf=>?_) (λf=>?_)|refine zS ?_|refine zT ?_ ?_<;>intro _|fail)
  all_goals conv=>whnf
  all_goals first
   |exact aG (u (d.2 ⟨Aa,Aa,Aa,Aa,Aa⟩)).symm
   |skip
  all_goals
   first
   |(refine⟨(D++[e],R, !b),?_,⟨Ad,v (λq=>by have q:=d.1 q;omega) (i.2 ⟨Ah,Ah⟩)⟩,Af⟩)
   |(refine⟨(D++[e],R,b),?_,⟨Ad,w (λq=>by have q:=d.1 q;omega) (λq=>by obtain⟨J,K⟩:=i.1 q;contradiction)⟩,Af⟩)
   exact L8
def aC1{r:Rg}{v:Vc}(h:within v 4000):fJ r v=iF r (v.1,v.2,1):=Pm h
def eA7{r:Rg}{v:Vc}(h:¬within v 4000):fJ r v=0:=Ph h
def cL0(r:Rg)(v:Vc)(c:r.length<=1000000):Sp 231 [rgV r,vcV v] (I (fJ r v)):=by
 refine zsp func231 ?_;have a:=aC1 (r:=r) (v:=v);have b:=eA7 (r:=r) (v:=v);generalize fJ r v=A at*;repeat' ((conv=>whnf);first|refine zc (kC v 4000) ?_|refine zc (zN v) ?_|refine zc (aB7 r (v.1,v.2,1) c) ?_|refine zS ?_|refine zT ?_ ?_<;>intro _|fail)
 all_goals conv=>whnf
 all_goals first
  |exact aG (b Ah).symm
  |exact aG (a Ah).symm
open Classical in
def boxR(r:Rg):Bx×Bool:=if dM r then aC7 r else(((0,0),(0,0)),false)
def dX3{r:Rg}(h:dM r):boxR r=aC7 r:=Pm h
def eX2{r:Rg}(h:¬dM r):boxR r=(((0,0),(0,0)),false):=Ph h
def dL2(r:Rg)(b:r.length<=1000000):Sp 153 [rgV r] (.tup [bxV (boxR r).1, .lit (.bool (boxR r).2)]):=by
 refine zsp func153 ?_;have c:=dX3 (r:=r);have d:=eX2 (r:=r);have e:=bI9 r b;generalize boxR r=A at*;generalize aC7 r=B at*;repeat' ((conv=>whnf);first|refine zc (lN r b) ?_|refine zS ?_|refine zd (λa=>?_) (λa=>?_))
 ·rw[c a]
  all_goals exact zE
 rw[d a];all_goals exact zE
def eL0{r:Rg}{k:Nat}(h:k<r.length):r.take (k+1)=r.take k++[r.getD k z0] :=by
 rw[List.take_add_one,getD_some h];rfl
def eA2(a b:Rg)(g:a.length<=1000000)(i:b.length<=1000000):Sp 232 [rgV a,rgV b] (DB (a=b)):=by
 refine zsp func232 ?_;have e:(a.map vcV).length=a.length:=Af;have f:(b.map vcV).length=b.length:=Af;repeat' ((conv=>whnf);first|refine zS ?_|refine zT ?_ ?_<;>intro _|fail)
 all_goals conv=>whnf
 all_goals first
  |(refine aA (aC ?_);intro h;subst h;omega)
  |skip
 have hab:a.length=b.length:=Aa;refine lD (A:=Nat) (λk=>mkSt [(0,rgV a),(1,rgV b),(11,rgV a),(12,I a.length),(13,I k)] [] []) (λk=>k<=a.length/\a.take k=b.take k) (λk=>a.length-k) 0 ?_ ⟨Aa,rfl⟩ (λk c=>?_);exact zj;obtain⟨c,ht⟩:=c;by_cases d:k<a.length
 ·repeat' ((conv=>whnf);first|omega|refine aU3 (r:=a) (k:=k) Aa Aa ?_|refine aU3 (r:=b) (k:=k) Aa Aa ?_|refine aT1 ?_|refine aB4 (λhv=>?_) (λhv=>?_)|refine zS ?_|refine zT ?_ ?_<;>intro _|fail)
  all_goals conv=>whnf
  refine⟨k+1,?_,⟨Aa,?_⟩,Aa⟩;exact zj;rw[eL0 Aa,eL0 Aa,ht,hv];refine aA (aC ?_);intro h;subst h;exact hv rfl
 have ek:k=a.length:=by omega
 repeat' ((conv=>whnf);first|omega|refine zS ?_|refine zT ?_ ?_<;>intro _|fail)
 all_goals conv=>whnf
 exact Oh
theorem wF(m x:Vc)(l:List Vc):sQ m (x::l)=sQ (open Classical in if kF x m then x else m) l:=by rw[sQ]
def cL6(r:Rg)(j:r.length<=1000000)(e:r≠ []):Sp 233 [rgV r, .fn 190 []] (vcV (wO r)):=by
 refine zsp func233 ?_;have g:(r.map vcV).length=r.length:=Af;have f:1<=r.length:=by cases r with|nil=>exact absurd rfl e|cons x l=>simp
 obtain⟨x,l,d⟩:∃x l,r=x::l:=by cases r with|nil=>exact absurd rfl e|cons x l=>exact⟨x,l,rfl⟩
 have c:wO r=sQ x l:=by rw[d];rfl
 repeat' ((conv=>whnf);first|omega|refine aF (l:=r) (A:=[]) (x:=x) (B:=l) d rfl ?_|refine zS ?_|refine zl (λhlt=>?_) (λhlt=>?_))
 refine oU (A:=List Vc) (B:=List Vc) (C:=Vc) (λD R m=>mkSt [(0,rgV r),(1, .fn 190 []),(4, .box 4 0),(5, .box 5 0),(6,I D.length)] [(4,[I 0,I 0]),(5,(vcV m).cells)] []) (λD R m=>r=D++R/\wO r=sQ m R/\1<=D.length) (λD R m=>R.length) [x] l x ?_ ⟨d,c,Af⟩ (λD R m hp=>?_);exact zj;obtain⟨hp,b,i⟩:=hp;cases R with
 |nil=>
  have a:r.length=D.length:=Ad;rw[b];exact NC
 |cons y R=>
  have a:=aO hp;rw[wF]at b;repeat' ((conv=>whnf);first|omega|refine zc (qI y m) ?_|refine zS ?_|refine zl (λhlt=>?_) (λhlt=>?_))
  all_goals conv=>whnf
  refine⟨(D++[y],R,y),?_,⟨Ad,by rw[b,Pm (show kF y m from hlt)],Af⟩,Af⟩;exact L8;refine⟨(D++[y],R,m),?_,⟨Ad,by rw[b,Ph (show¬kF y m by unfold kF;omega)],Af⟩,Af⟩;exact L8
def bZ1(v:Vc)(r:Rg):Int:=match sN v r 0 with|some j=>j|none=> -1
def cJ4(r:Rg)(v:Vc)(d:r.length<=1000000):Sp 234 [rgV r,vcV v] (I (bZ1 v r)):=by
 refine zsp func234 ?_;have c:(r.map vcV).length=r.length:=Af;unfold bZ1;repeat' ((conv=>whnf);first|refine zS ?_|fail)
 refine aU (A:=List Vc) (B:=List Vc) (λD R=>mkSt [(0,rgV r),(3, .box 3 0),(6,rgV r),(7,I r.length),(8,I D.length)] [(3,(vcV v).cells)] []) (λD R=>r=D++R/\sN v r 0=sN v R D.length) (λD R=>R.length) [] r ?_ ⟨rfl,rfl⟩ (λD R hp=>?_);exact zj;obtain⟨hp,b⟩:=hp;cases R with
 |nil=>
  have a:r.length=D.length:=Ad;repeat' ((conv=>whnf);first|omega|refine zS ?_|refine zT ?_ ?_<;>intro _|fail)
  all_goals conv=>whnf
  exact aG (by rw[b];rfl)
 |cons y R=>
  have a:=aO hp;rw[sN]at b;repeat' ((conv=>whnf);first|omega|refine aT1 ?_|refine aB4 (λhv=>?_) (λhv=>?_)|refine zS ?_|refine zT ?_ ?_<;>intro _|fail)
  all_goals conv=>whnf
  exact aG (by rw[b,Pm hv]);rw[Ph hv]at b;refine⟨(D++[y],R),?_,⟨Ad,by rw[b];simp⟩,Af⟩;exact L8
end Go.Proofs.Led
