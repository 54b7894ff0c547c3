/-
  What two segments have in common, walked.
-/
import Derived.Test.YtdjgbagnajikeaaGreatDoorB1
set_option linter.unusedVariables false
set_option linter.unusedSimpArgs false
set_option maxRecDepth 100000
noncomputable section
namespace Go.Proofs.Led
open Go Go.Proofs Go.Ab
theorem dU0{a b:Vc}:andB (eqB a.1 b.1) (andB (eqB a.2 b.2) true)=true↔a=b:=by
 rw[dE9,dE9,aA1,aA1];constructor
 ·rintro⟨h1,h2,_⟩
  exact Prod.ext h1 h2
 ·rintro rfl
  exact⟨rfl,rfl,rfl⟩
theorem aB4{a b:Vc}{A B:Prop}(h1:a=b->A)(h2:a≠b->B):branch (andB (eqB a.1 b.1) (andB (eqB a.2 b.2) true)) A B:=
 jU (fun h=>h1 (dU0.1 h)) (fun h=>h2 (fun e=>by rw[dU0.2 e]at h;cases h))
theorem eqVc(a b c d:Int):eqT T 4 97 [I a,I b] [I c,I d] =some (andB (eqB a c) (andB (eqB b d) true)):=Ac
theorem aT1{a b c d:Int}{K:Bool->Prop}(h:K (andB (eqB a c) (andB (eqB b d) true))):aL1.match_1 (fun _=>Prop) (eqT T 4 97 [I a,I b] [I c,I d]) K (fun _=>False):=by
 rw[eqVc];exact h
theorem uM{b:Int}{K:Prop}(h:b≠0)(hk:K):need (b≠0) K:=fU h hk
theorem bI9(l:List Vc)(hl:l.length<=1000000):Sp 250 [.sl (l.map vcV)] (.tup [bxV (aC7 l).1, .lit (.bool (aC7 l).2)]):=by
 refine zsp Tryz.func250 ?_;have hll:(l.map vcV).length=l.length:=Ae
 cases hl0:l with
 |nil=>
  repeat' ((conv=>whnf);first|(exfalso;exact heq rfl)|refine zS ?_|refine ze (fun heq=>?_) (fun heq=>?_))
  all_goals exact zE
 |cons x r=>
  rw[<-hl0];have hlen:l.length=r.length+1:=by rw[hl0];rfl
  have hb:aC7 l=(l.foldl gU (x,x),true):=by rw[hl0];rfl
  repeat' ((conv=>whnf);first|(exfalso;omega)|refine aF (l:=l) (A:=[]) (x:=x) (B:=r) hl0 rfl ?_|refine zS ?_|refine ze (fun heq=>?_) (fun heq=>?_))
  refine aU (A:=List Vc) (B:=List Vc) (fun D R=>mkSt [(0, .sl (l.map vcV)),(2, .box 2 0),(4, .box 4 0),(18,I l.length),(19,I D.length)] [(2,[I 0,I 0,I 0,I 0]),(4,(bxV (D.foldl gU (x,x))).cells)] [])
   (fun D R=>l=D++R) (fun D R=>R.length) [] l ?_ rfl (fun D R hp=>?_)
  ·exact zj
  cases R with
  |nil=>
   have hlen':l.length=D.length:=by rw[show l=D++[]from hp];simp
   have e:l=D:=by rw[show l=D++[]from hp];simp
   rw[hb];rw[show l.foldl gU (x,x)=D.foldl gU (x,x) by rw[e]]
   generalize D.foldl gU (x,x)=b;exact Nr
  |cons y R=>
   have hlen':=aO hp;have es:(D++[y]).foldl gU (x,x)=gU (D.foldl gU (x,x)) y:=by rw[List.foldl_append];rfl
   have eD:(D++[y]).length=D.length+1:=Ae;generalize D.foldl gU (x,x)=b at es;obtain⟨⟨b1,b2⟩,⟨b3,b4⟩⟩:=b
   repeat' ((conv=>whnf);first|(exfalso;omega)|refine cC0 [(4,4),(40,4),(41,4),(62,4),(63,4),(0,999),(5,999),(34,999),(35,999),(36,999),(37,999),(56,999),(57,999),(58,999),(59,999)] Aq Ac ?_|refine zS ?_|refine zl (fun hlt=>?_) (fun hlt=>?_))
   conv=>whnf
   refine⟨(D++[y],R),?_,by rw[show l=D++y::R from hp];simp,Ae⟩
   simp only[es,eD];unfold gU;simp only[<-lH,<-mG];exact zj
theorem aM9(a b:Int):Sp 325 [I a,I b] (I (divisor a b)):=by
 refine zsp Tryz.func325 ?_
 repeat' ((conv=>whnf);first|refine zS ?_|fail)
 refine aU (A:=Int) (B:=Int) (fun x y=>mkSt [(0,I x),(1,I y)] [] []) (fun x y=>gcdI x y=gcdI a b) (fun x y=>y.natAbs) a b ?_ rfl (fun x y hp=>?_)
 ·exact zj
 have hp:gcdI x y=gcdI a b:=hp;by_cases h0:y=0
 ·subst h0
  have e:gcdI x 0=x:=by rw[gcdI];simp
  repeat' ((conv=>whnf);first|(exfalso;omega)|refine zS ?_|refine zT ?_ ?_<;>intro _|fail)
  all_goals conv=>whnf
  refine aG ?_;unfold divisor;rw[<-hp,e,mG]
 ·have e:gcdI x y=gcdI y (x.tmod y):=by rw[gcdI,dif_neg h0]
  repeat' ((conv=>whnf);first|refine uM h0 ?_|(exfalso;omega)|refine zS ?_|refine zT ?_ ?_<;>intro _|fail)
  all_goals conv=>whnf
  refine⟨(y,x.tmod y),?_,by rw[<-hp,e],tmod_lt x y h0⟩
  exact zj
theorem yS(s:Sg)(p:Vc):Sp 288 [sgV s,vcV p] (DB (eX s p)):=by
 refine zsp Tryz.func288 ?_;have hbx:=bI9 [s.1,s.2] Ae;generalize hb:aC7 [s.1,s.2] =bb at hbx;obtain⟨b,ok⟩:=bb
 repeat' ((conv=>whnf);first|refine zc (aK1 s) ?_|refine zc (cQ7 b p) ?_|refine zc (aI8 s.1 s.2 p) ?_|refine zS ?_|refine zT ?_ ?_<;>intro _|fail)
 all_goals conv=>whnf
 all_goals refine aA ?_
 all_goals first
  |(refine sK ?_;unfold eX;simp[*];done)
  |exact aC (by unfold eX;simp[*])
theorem zN(p:Vc):Sp 243 [vcV p] (ptV (p.1,p.2,1)):=by
 refine zsp Tryz.func243 ?_;exact zF
theorem vY(p:Vc):Sp 289 [vcV p] (cmV (single p)):=by
 refine zsp Tryz.func289 ?_
 repeat' ((conv=>whnf);first|refine zc (zN p) ?_|refine zS ?_|fail)
 all_goals exact zE
theorem cC6(p:Pt)(m:Int):Sp 327 [ptV p,I m] (DB (bounded p m)):=by
 refine zsp Tryz.func327 ?_
 repeat' ((conv=>whnf);first|refine zc (kC (p.1,p.2.1) (W (m*p.2.2))) ?_|refine zS ?_|refine zT ?_ ?_<;>intro _|fail)
 all_goals conv=>whnf
 all_goals refine aA ?_
 all_goals first
  |exact aC (by unfold bounded;omega)
  |(refine fQ ?_;unfold bounded;constructor;(·intro h;exact⟨Aa,Aa,h⟩);(·intro h;exact h.2.2))
theorem bW9(p:Pt):Sp 291 [ptV p] (DB (wJ p)):=by
 refine zsp Tryz.func291 ?_
 repeat' ((conv=>whnf);first|refine zc (cC6 p 4000) ?_|refine zc (aM9 p.1 p.2.1) ?_|refine zc (aM9 (divisor p.1 p.2.1) p.2.2) ?_|refine zS ?_|refine zT ?_ ?_<;>intro _|fail)
 all_goals conv=>whnf
 all_goals refine aA ?_
 all_goals first
  |(refine sK ?_;unfold wJ;simp[*];done)
  |exact aC (by unfold wJ;simp[*])
end Go.Proofs.Led
