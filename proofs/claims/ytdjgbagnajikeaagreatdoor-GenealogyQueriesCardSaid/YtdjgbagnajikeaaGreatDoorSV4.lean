/-
  How two segments meet, walked.
-/
import Derived.Test.YtdjgbagnajikeaaGreatDoorB2
set_option linter.unusedVariables false
set_option linter.unusedSimpArgs false
set_option maxRecDepth 100000
set_option maxHeartbeats 2000000
noncomputable section
namespace Go.Proofs.Led
open Go Go.Proofs Go.Ab
theorem eU9(n:Int):R64 (W n):=nT n
theorem dI2{a b d:Int}(h:a=0\/a=d\/b=0\/b=d):aH6 a b d=1:=by unfold aH6;rw[if_pos h]
theorem dD5{a b d:Int}(h:¬(a=0\/a=d\/b=0\/b=d)):aH6 a b d=2:=by unfold aH6;rw[if_neg h]
theorem eN0{s t:Sg}{d a b e:Int}(hq:turned (lX s t) (lS s t) d=(a,b,e))(h:a<0\/e<a\/b<0\/e<b):lines s t d=cm0:=by
 unfold lines;rw[hq];exact if_pos h
theorem eT2{s t:Sg}{d a b e:Int}(hq:turned (lX s t) (lS s t) d=(a,b,e))(h:¬(a<0\/e<a\/b<0\/e<b)):
 lines s t d=⟨aH6 a b e,W ((aL6 s (vsub s.2 s.1) a e).tdiv (divisor (divisor (aL6 s (vsub s.2 s.1) a e) (aP4 s (vsub s.2 s.1) a e)) e)),W ((aP4 s (vsub s.2 s.1) a e).tdiv (divisor (divisor (aL6 s (vsub s.2 s.1) a e) (aP4 s (vsub s.2 s.1) a e)) e)),W (e.tdiv (divisor (divisor (aL6 s (vsub s.2 s.1) a e) (aP4 s (vsub s.2 s.1) a e)) e)),((0,0),(0,0))⟩:=by
 unfold lines;rw[hq];exact if_neg h
theorem bD4{a b d:Int}(h:0<=d):turned a b d=(a,b,d):=by unfold turned;rw[if_neg (by omega)]
theorem bG9{a b d:Int}(h:d<0):turned a b d=(W (0-a),W (0-b),W (0-d)):=by unfold turned;rw[if_pos h]
theorem cT6(s t:Sg)(d:Int)(hd:d≠0)(hr:R64 d):Sp 287 [sgV s,sgV t,I d] (cmV (lines s t d)):=by
 refine zsp Tryz.func287 ?_;have hA:=kD (vsub t.1 s.1) (vsub t.2 t.1);have hB:=kD (vsub t.1 s.1) (vsub s.2 s.1)
 obtain⟨q,hq⟩:∃q,q=turned (lX s t) (lS s t) d:=⟨_,rfl⟩;obtain⟨a,b,e⟩:=q;have hX:aL6 s (vsub s.2 s.1) a e=W (W (s.1.1*e)+W (a*(vsub s.2 s.1).1)):=rfl;have hY:aP4 s (vsub s.2 s.1) a e=W (W (s.1.2*e)+W (a*(vsub s.2 s.1).2)):=rfl
 have he:e≠0/\R64 e:=by
  rcases Int.lt_or_le d 0 with h|h
  ·rw[bG9 h]at hq
   cases hq;refine⟨?_,nT _⟩;unfold R64 at hr;by_cases hm:d= -9223372036854775808
   ·subst hm;decide
   ·rw[w_in Aa];omega
  ·rw[bD4 h]at hq
   cases hq;exact⟨hd,hr⟩
 have hg:divisor (divisor (aL6 s (vsub s.2 s.1) a e) (aP4 s (vsub s.2 s.1) a e)) e≠0:=fun h=>
  he.1 (cB4 (bO1 (eU9 _) (eU9 _)) he.2 h).2
 have l0:=eN0 hq.symm;have l1:=eT2 hq.symm
 have g1:=aM9 (aL6 s (vsub s.2 s.1) a e) (aP4 s (vsub s.2 s.1) a e);have g2:=aM9 (divisor (aL6 s (vsub s.2 s.1) a e) (aP4 s (vsub s.2 s.1) a e)) e
 rw[hX,hY]at g1 g2 hg l1
 have neg:d<0->e=W (0-d)/\a=W (0-lX s t)/\b=W (0-lS s t):=fun h=>by
  rw[bG9 h]at hq;cases hq;exact⟨rfl,rfl,rfl⟩
 have pos:0<=d->e=d/\a=lX s t/\b=lS s t:=fun h=>by
  rw[bD4 h]at hq;cases hq;exact⟨rfl,rfl,rfl⟩
 clear hX hY hq;unfold lX lS at neg pos;rcases Int.lt_or_le d 0 with hdn|hdp
 ·obtain⟨rfl,rfl,rfl⟩:=neg hdn
  exact KX
 ·obtain⟨rfl,rfl,rfl⟩:=pos hdp
  exact KX
theorem cZ7{s:Sg}(h:kF s.2 s.1):ordS s=(s.2,s.1):=by unfold ordS;rw[if_pos h]
theorem cY4{s:Sg}(h:¬kF s.2 s.1):ordS s=s:=by unfold ordS;rw[if_neg h]
def bK6(s t s' t':Sg)(k:Nat):List V:=match k with
 |0=> [I s.1.1,I s.1.2,I s.2.1,I s.2.2,I t.1.1,I t.1.2,I t.2.1,I t.2.2]
 |1=> [I s'.1.1,I s'.1.2,I s'.2.1,I s'.2.2,I t.1.1,I t.1.2,I t.2.1,I t.2.2]
 |_=> [I s'.1.1,I s'.1.2,I s'.2.1,I s'.2.2,I t'.1.1,I t'.1.2,I t'.2.1,I t'.2.2]
def twoK(k:Nat):Int:=match k with
 |0=>0
 |1=>2
 |_=>4
theorem fD1{s t:Sg}(h:¬bI s\/¬bI t):kQ s t=cm0:=by unfold kQ;rw[if_pos h]
section
variable{s t:Sg}(hs:bI s)(ht:bI t)
theorem fA1(hs:bI s)(ht:bI t)(h:jC s t≠0):kQ s t=lines s t (jC s t):=by unfold kQ;rw[if_neg (by simp[hs,ht]),if_pos h]
theorem eX5(hs:bI s)(ht:bI t)(h:jC s t=0)(h1:s.1=s.2)(h2:eX t s.1):kQ s t=single s.1:=by unfold kQ;rw[if_neg (by simp[hs,ht]),if_neg (by simp[h]),if_pos ⟨h1,h2⟩]
theorem fC4(hs:bI s)(ht:bI t)(h:jC s t=0)(h1:¬(s.1=s.2/\eX t s.1))(h2:t.1=t.2)(h3:eX s t.1):kQ s t=single t.1:=by unfold kQ;rw[if_neg (by simp[hs,ht]),if_neg (by simp[h]),if_neg h1,if_pos ⟨h2,h3⟩]
theorem eY1(hs:bI s)(ht:bI t)(h:jC s t=0)(h1:¬(s.1=s.2/\eX t s.1))(h2:¬(t.1=t.2/\eX s t.1))(h3:s.1=s.2\/t.1=t.2\/kR s.1 s.2 t.1≠0):kQ s t=cm0:=by unfold kQ;rw[if_neg (by simp[hs,ht]),if_neg (by simp[h]),if_neg h1,if_neg h2,if_pos h3]
theorem fA2(hs:bI s)(ht:bI t)(h:jC s t=0)(h3:¬(s.1=s.2\/t.1=t.2\/kR s.1 s.2 t.1≠0)):kQ s t=yD (hiLo (ordS s) (ordS t)):=by
 unfold kQ;rw[if_neg (by simp[hs,ht]),if_neg (by simp[h]),if_neg (fun q=>h3 (.inl q.1)),if_neg (fun q=>h3 (.inr (.inl q.1))),if_neg h3]
end
theorem eT6{s t:Sg}(h1:kF s.1 t.1)(h2:kF t.2 s.2):hiLo s t=(t.1,t.2):=by unfold hiLo;rw[if_pos h1,if_pos h2]
theorem eN5{s t:Sg}(h1:kF s.1 t.1)(h2:¬kF t.2 s.2):hiLo s t=(t.1,s.2):=by unfold hiLo;rw[if_pos h1,if_neg h2]
theorem eN6{s t:Sg}(h1:¬kF s.1 t.1)(h2:kF t.2 s.2):hiLo s t=(s.1,t.2):=by unfold hiLo;rw[if_neg h1,if_pos h2]
theorem eT1{s t:Sg}(h1:¬kF s.1 t.1)(h2:¬kF t.2 s.2):hiLo s t=(s.1,s.2):=by unfold hiLo;rw[if_neg h1,if_neg h2]
theorem eX9{a b:Vc}(h:vcmp a b=0):yD (a,b)=single a:=by unfold yD;rw[if_pos h]
theorem eX0{a b:Vc}(h:vcmp a b= -1):yD (a,b)=⟨3,0,0,0,(a,b)⟩:=by unfold yD;rw[if_neg (by show vcmp a b≠0;omega),if_pos h]
theorem fC8{a b:Vc}(h:vcmp a b≠0)(h':vcmp a b≠-1):yD (a,b)=cm0:=by unfold yD;rw[if_neg h,if_neg h']
theorem cU7(s t:Sg):Sp 240 [sgV s,sgV t] (cmV (kQ s t)):=by
 refine zsp Tryz.func240 ?_;have hD:=kD (vsub s.2 s.1) (vsub t.2 t.1);have hDr:R64 (jC s t):=nT _
 rw[show bZ (vsub s.2 s.1) (vsub t.2 t.1)=jC s t from rfl]at hD;have m0:=fD1 (s:=s) (t:=t);have m1:=fA1 (s:=s) (t:=t)
 have m2:=eX5 (s:=s) (t:=t);have m3:=fC4 (s:=s) (t:=t)
 have m4:=eY1 (s:=s) (t:=t);have m5:=fA2 (s:=s) (t:=t)
 have hL:=fun hd=>cT6 s t (jC s t) hd hDr;generalize hm:kQ s t=M at*;generalize hd0:jC s t=dd at*;generalize lines s t dd=LL at*;generalize hhl:hiLo (ordS s) (ordS t)=hl at*
 repeat' ((conv=>whnf);first|(exfalso;contradiction)|refine zc (aK1 s) ?_|refine zc (aK1 t) ?_|refine zc (fF s.2 s.1) ?_|refine zc (fF t.2 t.1) ?_|refine zc hD ?_|refine zc (hL Ad) ?_|refine aT1 ?_|refine aB4 (fun hv=>?_) (fun hv=>?_)|refine zc (yS t s.1) ?_|refine zc (yS s t.1) ?_|refine zc (vY s.1) ?_|refine zc (vY t.1) ?_|refine zc (aI8 s.1 s.2 t.1) ?_|refine zS ?_|refine zd (fun hd=>?_) (fun hd=>?_)|refine ze (fun heq=>?_) (fun heq=>?_))
 all_goals conv=>whnf
 all_goals first
  |(rw[m0 Fz];refine⟨?_,rfl,fun rs h=>V.noConfusion h⟩;(repeat' (first|exact trivial|refine And.intro ?_ ?_|with_reducible rfl|exact(fun h=>Ag)|exact rfl));done)
  |(rw[m1 Ad Ad Ad];refine⟨?_,rfl,fun rs h=>V.noConfusion h⟩;(repeat' (first|exact trivial|refine And.intro ?_ ?_|with_reducible rfl|exact(fun h=>Ag)|exact rfl));done)
  |(rw[m2 Ad Ad Aa Ad Ad];refine⟨?_,rfl,fun rs h=>V.noConfusion h⟩;(repeat' (first|exact trivial|refine And.intro ?_ ?_|with_reducible rfl|exact(fun h=>Ag)|exact rfl));done)
  |(rw[m3 Ad Ad Aa (fun q=>Ey) Ad Ad];refine⟨?_,rfl,fun rs h=>V.noConfusion h⟩;(repeat' (first|exact trivial|refine And.intro ?_ ?_|with_reducible rfl|exact(fun h=>Ag)|exact rfl));done)
  |(rw[m4 Ad Ad Aa (fun q=>Ey) (fun q=>Ey) (by first|exact .inl ‹_› |exact .inr (.inl ‹_›)|exact .inr (.inr ‹_›))];refine⟨?_,rfl,fun rs h=>V.noConfusion h⟩;(repeat' (first|exact trivial|refine And.intro ?_ ?_|with_reducible rfl|exact(fun h=>Ag)|exact rfl));done)
  |skip
 have hM:M=yD hl:=m5 Ad Ad Aa (by rintro(q|q|q)<;>first|contradiction|omega)
 clear m0 m1 m2 m3 m4 m5
 refine lD (A:=Nat) (fun k=>mkSt [(0,sgV s),(1,sgV t),(2, .box 2 0),(3, .box 3 0),(4, .box 4 0),(6, .box 6 0),(7,I (twoK k))] [(2,(sgV s).cells),(3,(sgV t).cells),(4,(cmV cm0).cells),(6,bK6 s t (ordS s) (ordS t) k)] [])
  (fun k=>k<=2) (fun k=>2-k) 0 ?_ Aa (fun k hk=>?_)
 ·exact zj
 have hos:=cZ7 (s:=s);have hof:=cY4 (s:=s)
 have hts:=cZ7 (s:=t);have htf:=cY4 (s:=t)
 have tk0:twoK 0=0:=rfl;have tk1:twoK 1=2:=rfl
 have tk2:twoK 2=4:=rfl;have eL:(2:Int)=twoK 1:=rfl
 match k,hk with
 |0,_=>
  repeat' ((conv=>whnf);first|(exfalso;omega)|refine zc (yQ s.2 s.1) ?_|refine zS ?_|refine zd (fun hd=>?_) (fun hd=>?_)|refine zl (fun hlt=>?_) (fun hlt=>?_))
  all_goals conv=>whnf
  ·refine⟨1,?_,Aa,Aa⟩
   unfold bK6;rw[hos hd];exact zj
  ·refine⟨1,?_,Aa,Aa⟩
   unfold bK6;rw[hof hd];exact zj
 |1,_=>
  repeat' ((conv=>whnf);first|(exfalso;omega)|refine zc (yQ t.2 t.1) ?_|refine zS ?_|refine zd (fun hd=>?_) (fun hd=>?_)|refine zl (fun hlt=>?_) (fun hlt=>?_))
  all_goals conv=>whnf
  ·refine⟨2,?_,Aa,Aa⟩
   unfold bK6;rw[hts hd];exact zj
  ·refine⟨2,?_,Aa,Aa⟩
   unfold bK6;rw[htf hd];exact zj
 |2,_=>
  generalize ordS s=s' at*;generalize ordS t=t' at*
  repeat' ((conv=>whnf);first|(exfalso;omega)|refine cC0 [(6,6),(8,8),(9,9),(123,6),(125,6)] Aq Ac ?_|refine zc (yQ s'.1 t'.1) ?_|refine zc (yQ t'.2 s'.2) ?_|refine zc (qI s'.1 s'.2) ?_|refine zc (qI s'.1 t'.2) ?_|refine zc (qI t'.1 s'.2) ?_|refine zc (qI t'.1 t'.2) ?_|refine zc (vY s'.1) ?_|refine zc (vY t'.1) ?_|refine zS ?_|refine zd (fun hd=>?_) (fun hd=>?_)|refine zl (fun hlt=>?_) (fun hlt=>?_)|refine ze (fun heq=>?_) (fun heq=>?_))
  all_goals conv=>whnf
  all_goals
   first
   |rw[eT6 Ad Ad]at hhl
   |rw[eN5 Ad Ad]at hhl
   |rw[eN6 Ad Ad]at hhl
   |rw[eT1 Ad Ad]at hhl
   subst hhl
  all_goals first
   |(rw[hM,eX9 Ad];refine⟨?_,rfl,fun rs h=>V.noConfusion h⟩;(repeat' (first|exact trivial|refine And.intro ?_ ?_|with_reducible rfl|exact(fun h=>Ag)|exact rfl));done)
   |(rw[hM,eX0 Ad];refine⟨?_,rfl,fun rs h=>V.noConfusion h⟩;(repeat' (first|exact trivial|refine And.intro ?_ ?_|with_reducible rfl|exact(fun h=>Ag)|exact rfl));done)
   |(rw[hM,fC8 Ad Ad];refine⟨?_,rfl,fun rs h=>V.noConfusion h⟩;(repeat' (first|exact trivial|refine And.intro ?_ ?_|with_reducible rfl|exact(fun h=>Ag)|exact rfl));done)
end Go.Proofs.Led
