/-
  How two segments meet, walked.
-/
import Derived.Test.YtdjgbagnajikeaaGreatDoorB1
set_option linter.unusedVariables false
set_option linter.unusedSimpArgs false
set_option maxRecDepth 100000
set_option maxHeartbeats 2000000
noncomputable section
namespace Go.Proofs.Led
open Go Go.Proofs Go.Ab
theorem eU9(n:Int):R64 (W n):=nT n
theorem dI2{a b d:Int}(h:a=0\/a=d\/b=0\/b=d):aH6 a b d=1:=by unfold aH6;rw[QO h]
theorem dD5{a b d:Int}(h:¬(a=0\/a=d\/b=0\/b=d)):aH6 a b d=2:=by unfold aH6;rw[Q5 h]
theorem eN0{s t:Sg}{d a b e:Int}(c:turned (lX s t) (lS s t) d=(a,b,e))(h:a<0\/e<a\/b<0\/e<b):lines s t d=cm0:=by
 unfold lines;rw[c];exact QO h
theorem eT2{s t:Sg}{d a b e:Int}(c:turned (lX s t) (lS s t) d=(a,b,e))(h:¬(a<0\/e<a\/b<0\/e<b)):
 lines s t d=⟨aH6 a b e,W ((aL6 s (vsub s.2 s.1) a e).tdiv (divisor (divisor (aL6 s (vsub s.2 s.1) a e) (aP4 s (vsub s.2 s.1) a e)) e)),W ((aP4 s (vsub s.2 s.1) a e).tdiv (divisor (divisor (aL6 s (vsub s.2 s.1) a e) (aP4 s (vsub s.2 s.1) a e)) e)),W (e.tdiv (divisor (divisor (aL6 s (vsub s.2 s.1) a e) (aP4 s (vsub s.2 s.1) a e)) e)),((0,0),(0,0))⟩:=by
 unfold lines;rw[c];exact Q5 h
theorem bD4{a b d:Int}(h:0<=d):turned a b d=(a,b,d):=by unfold turned;rw[Q5 (by omega)]
theorem bG9{a b d:Int}(h:d<0):turned a b d=(W (0-a),W (0-b),W (0-d)):=by unfold turned;rw[QO h]
theorem cT6(s t:Sg)(d:Int)(m:d≠0)(l:R64 d):Sp 287 [sgV s,sgV t,I d] (cmV (lines s t d)):=by
 refine zsp Tryz.func287 ?_;have hA:=kD (vsub t.1 s.1) (vsub t.2 t.1);have hB:=kD (vsub t.1 s.1) (vsub s.2 s.1)
 obtain⟨q,c⟩:∃q,q=turned (lX s t) (lS s t) d:=⟨_,rfl⟩;obtain⟨a,b,e⟩:=q;have i:aL6 s (vsub s.2 s.1) a e=W (W (s.1.1*e)+W (a*(vsub s.2 s.1).1)):=rfl;have j:aP4 s (vsub s.2 s.1) a e=W (W (s.1.2*e)+W (a*(vsub s.2 s.1).2)):=rfl
 have k:e≠0/\R64 e:=by
  rcases Int.lt_or_le d 0 with h|h
  ·rw[bG9 h]at c
   cases c;refine⟨?_,nT _⟩;unfold R64 at l;by_cases n:d= -9223372036854775808
   ·subst n;decide
   ·rw[w_in Aa];omega
  ·rw[bD4 h]at c
   cases c;exact⟨m,l⟩
 have hg:divisor (divisor (aL6 s (vsub s.2 s.1) a e) (aP4 s (vsub s.2 s.1) a e)) e≠0:=λh=>
  k.1 (cB4 (bO1 (eU9 _) (eU9 _)) k.2 h).2
 have l0:=eN0 c.symm;have l1:=eT2 c.symm
 have g1:=aM9 (aL6 s (vsub s.2 s.1) a e) (aP4 s (vsub s.2 s.1) a e);have g2:=aM9 (divisor (aL6 s (vsub s.2 s.1) a e) (aP4 s (vsub s.2 s.1) a e)) e
 rw[i,j]at g1 g2 hg l1
 have neg:d<0->e=W (0-d)/\a=W (0-lX s t)/\b=W (0-lS s t):=λh=>by
  rw[bG9 h]at c;cases c;exact⟨rfl,rfl,rfl⟩
 have pos:0<=d->e=d/\a=lX s t/\b=lS s t:=λh=>by
  rw[bD4 h]at c;cases c;exact⟨rfl,rfl,rfl⟩
 clear i j c;unfold lX lS at neg pos;rcases Int.lt_or_le d 0 with f|g
 ·obtain⟨rfl,rfl,rfl⟩:=neg f
  exact Nv
 ·obtain⟨rfl,rfl,rfl⟩:=pos g
  exact Nv
theorem cZ7{s:Sg}(h:kF s.2 s.1):ordS s=(s.2,s.1):=by unfold ordS;rw[QO h]
theorem cY4{s:Sg}(h:¬kF s.2 s.1):ordS s=s:=by unfold ordS;rw[Q5 h]
def bK6(s t s' t':Sg)(k:Nat):List V:=match k with
 |0=> [I s.1.1,I s.1.2,I s.2.1,I s.2.2,I t.1.1,I t.1.2,I t.2.1,I t.2.2]
 |1=> [I s'.1.1,I s'.1.2,I s'.2.1,I s'.2.2,I t.1.1,I t.1.2,I t.2.1,I t.2.2]
 |_=> [I s'.1.1,I s'.1.2,I s'.2.1,I s'.2.2,I t'.1.1,I t'.1.2,I t'.2.1,I t'.2.2]
def twoK(k:Nat):Int:=match k with
 |0=>0
 |1=>2
 |_=>4
theorem fD1{s t:Sg}(h:¬bI s\/¬bI t):kQ s t=cm0:=by unfold kQ;rw[QO h]
section
variable{s t:Sg}(hs:bI s)(ht:bI t)
theorem fA1(hs:bI s)(ht:bI t)(h:jC s t≠0):kQ s t=lines s t (jC s t):=by unfold kQ;rw[Q5 (by simp[hs,ht]),QO h]
theorem eX5(hs:bI s)(ht:bI t)(h:jC s t=0)(a:s.1=s.2)(b:eX t s.1):kQ s t=single s.1:=by unfold kQ;rw[Q5 (by simp[hs,ht]),Q5 (by simp[h]),QO ⟨a,b⟩]
theorem fC4(hs:bI s)(ht:bI t)(h:jC s t=0)(a:¬(s.1=s.2/\eX t s.1))(b:t.1=t.2)(c:eX s t.1):kQ s t=single t.1:=by unfold kQ;rw[Q5 (by simp[hs,ht]),Q5 (by simp[h]),Q5 a,QO ⟨b,c⟩]
theorem eY1(hs:bI s)(ht:bI t)(h:jC s t=0)(a:¬(s.1=s.2/\eX t s.1))(b:¬(t.1=t.2/\eX s t.1))(c:s.1=s.2\/t.1=t.2\/kR s.1 s.2 t.1≠0):kQ s t=cm0:=by unfold kQ;rw[Q5 (by simp[hs,ht]),Q5 (by simp[h]),Q5 a,Q5 b,QO c]
theorem fA2(hs:bI s)(ht:bI t)(h:jC s t=0)(a:¬(s.1=s.2\/t.1=t.2\/kR s.1 s.2 t.1≠0)):kQ s t=yD (hiLo (ordS s) (ordS t)):=by
 unfold kQ;simp_all
end
theorem eT6{s t:Sg}(a:kF s.1 t.1)(b:kF t.2 s.2):hiLo s t=(t.1,t.2):=by unfold hiLo;rw[QO a,QO b]
theorem eN5{s t:Sg}(a:kF s.1 t.1)(b:¬kF t.2 s.2):hiLo s t=(t.1,s.2):=by unfold hiLo;rw[QO a,Q5 b]
theorem eN6{s t:Sg}(a:¬kF s.1 t.1)(b:kF t.2 s.2):hiLo s t=(s.1,t.2):=by unfold hiLo;rw[Q5 a,QO b]
theorem eT1{s t:Sg}(a:¬kF s.1 t.1)(b:¬kF t.2 s.2):hiLo s t=(s.1,s.2):=by unfold hiLo;rw[Q5 a,Q5 b]
theorem eX9{a b:Vc}(h:vcmp a b=0):yD (a,b)=single a:=by unfold yD;rw[QO h]
theorem eX0{a b:Vc}(h:vcmp a b= -1):yD (a,b)=⟨3,0,0,0,(a,b)⟩:=by unfold yD;rw[Q5 (by show vcmp a b≠0;omega),QO h]
theorem fC8{a b:Vc}(h:vcmp a b≠0)(c:vcmp a b≠-1):yD (a,b)=cm0:=by unfold yD;rw[Q5 h,Q5 c]
theorem cU7(s t:Sg):Sp 240 [sgV s,sgV t] (cmV (kQ s t)):=by
 refine zsp Tryz.func240 ?_;have o:=kD (vsub s.2 s.1) (vsub t.2 t.1);have g:R64 (jC s t):=nT _
 rw[show bZ (vsub s.2 s.1) (vsub t.2 t.1)=jC s t from rfl]at o;have r:=fD1 (s:=s) (t:=t);have u:=fA1 (s:=s) (t:=t)
 have v:=eX5 (s:=s) (t:=t);have w:=fC4 (s:=s) (t:=t)
 have x:=eY1 (s:=s) (t:=t);have y:=fA2 (s:=s) (t:=t)
 have B:=λa=>cT6 s t (jC s t) a g;generalize L:kQ s t=M at*;generalize C:jC s t=z at*;generalize lines s t z=J at*;generalize b:hiLo (ordS s) (ordS t)=E at*
 repeat' ((conv=>whnf);first|(exfalso;contradiction)|refine zc (aK1 s) ?_|refine zc (aK1 t) ?_|refine zc (fF s.2 s.1) ?_|refine zc (fF t.2 t.1) ?_|refine zc o ?_|refine zc (B Ag) ?_|refine aT1 ?_|refine aB4 (λhv=>?_) (λhv=>?_)|refine zc (yS t s.1) ?_|refine zc (yS s t.1) ?_|refine zc (vY s.1) ?_|refine zc (vY t.1) ?_|refine zc (aI8 s.1 s.2 t.1) ?_|refine zS ?_|refine zd (λa=>?_) (λa=>?_)|refine ze (λd=>?_) (λd=>?_))
 all_goals conv=>whnf
 all_goals first
  |(rw[r GL];refine⟨?_,rfl,λrs h=>V.noConfusion h⟩;(repeat' (first|exact trivial|refine And.intro ?_ ?_|with_reducible rfl|exact(λh=>Ah)|exact rfl));done)
  |(rw[u Ag Ag Ag];refine⟨?_,rfl,λrs h=>V.noConfusion h⟩;(repeat' (first|exact trivial|refine And.intro ?_ ?_|with_reducible rfl|exact(λh=>Ah)|exact rfl));done)
  |(rw[v Ag Ag Aa Ag Ag];refine⟨?_,rfl,λrs h=>V.noConfusion h⟩;(repeat' (first|exact trivial|refine And.intro ?_ ?_|with_reducible rfl|exact(λh=>Ah)|exact rfl));done)
  |(rw[w Ag Ag Aa (λq=>F9) Ag Ag];refine⟨?_,rfl,λrs h=>V.noConfusion h⟩;(repeat' (first|exact trivial|refine And.intro ?_ ?_|with_reducible rfl|exact(λh=>Ah)|exact rfl));done)
  |(rw[x Ag Ag Aa (λq=>F9) (λq=>F9) (by first|exact .inl ‹_› |exact .inr (.inl ‹_›)|exact .inr (.inr ‹_›))];refine⟨?_,rfl,λrs h=>V.noConfusion h⟩;(repeat' (first|exact trivial|refine And.intro ?_ ?_|with_reducible rfl|exact(λh=>Ah)|exact rfl));done)
  |skip
 have i:M=yD E:=y Ag Ag Aa (by rintro(q|q|q)<;>first|contradiction|omega)
 clear r u v w x y
 refine lD (A:=Nat) (λk=>mkSt [(0,sgV s),(1,sgV t),(2, .box 2 0),(3, .box 3 0),(4, .box 4 0),(6, .box 6 0),(7,I (twoK k))] [(2,(sgV s).cells),(3,(sgV t).cells),(4,(cmV cm0).cells),(6,bK6 s t (ordS s) (ordS t) k)] [])
  (λk=>k<=2) (λk=>2-k) 0 ?_ Aa (λk D=>?_)
 ·exact zj
 have l:=cZ7 (s:=s);have j:=cY4 (s:=s)
 have n:=cZ7 (s:=t);have m:=cY4 (s:=t)
 have F:twoK 0=0:=rfl;have G:twoK 1=2:=rfl
 have H:twoK 2=4:=rfl;have K:(2:Int)=twoK 1:=rfl
 match k,D with
 |0,_=>
  repeat' ((conv=>whnf);first|omega|refine zc (yQ s.2 s.1) ?_|refine zS ?_|refine zd (λa=>?_) (λa=>?_)|refine zl (λc=>?_) (λc=>?_))
  all_goals conv=>whnf
  ·refine⟨1,?_,Aa,Aa⟩
   unfold bK6;rw[l a];exact zj
  ·refine⟨1,?_,Aa,Aa⟩
   unfold bK6;rw[j a];exact zj
 |1,_=>
  repeat' ((conv=>whnf);first|omega|refine zc (yQ t.2 t.1) ?_|refine zS ?_|refine zd (λa=>?_) (λa=>?_)|refine zl (λc=>?_) (λc=>?_))
  all_goals conv=>whnf
  ·refine⟨2,?_,Aa,Aa⟩
   unfold bK6;rw[n a];exact zj
  ·refine⟨2,?_,Aa,Aa⟩
   unfold bK6;rw[m a];exact zj
 |2,_=>
  generalize ordS s=e at*;generalize ordS t=f at*
  repeat' ((conv=>whnf);first|omega|refine cC0 [(6,6),(8,8),(9,9),(123,6),(125,6)] Ad Ac ?_|refine zc (yQ e.1 f.1) ?_|refine zc (yQ f.2 e.2) ?_|refine zc (qI e.1 e.2) ?_|refine zc (qI e.1 f.2) ?_|refine zc (qI f.1 e.2) ?_|refine zc (qI f.1 f.2) ?_|refine zc (vY e.1) ?_|refine zc (vY f.1) ?_|refine zS ?_|refine zd (λa=>?_) (λa=>?_)|refine zl (λc=>?_) (λc=>?_)|refine ze (λd=>?_) (λd=>?_))
  all_goals conv=>whnf
  all_goals
   first
   |rw[eT6 Ag Ag]at b
   |rw[eN5 Ag Ag]at b
   |rw[eN6 Ag Ag]at b
   |rw[eT1 Ag Ag]at b
   subst b
  all_goals first
   |(rw[i,eX9 Ag];refine⟨?_,rfl,λrs h=>V.noConfusion h⟩;(repeat' (first|exact trivial|refine And.intro ?_ ?_|with_reducible rfl|exact(λh=>Ah)|exact rfl));done)
   |(rw[i,eX0 Ag];refine⟨?_,rfl,λrs h=>V.noConfusion h⟩;(repeat' (first|exact trivial|refine And.intro ?_ ?_|with_reducible rfl|exact(λh=>Ah)|exact rfl));done)
   |(rw[i,fC8 Ag Ag];refine⟨?_,rfl,λrs h=>V.noConfusion h⟩;(repeat' (first|exact trivial|refine And.intro ?_ ?_|with_reducible rfl|exact(λh=>Ah)|exact rfl));done)
end Go.Proofs.Led
