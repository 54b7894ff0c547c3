/- Lemmas. -/
import Derived.Test.YtcmgfjaiegpddaaGreatB2
set_option linter.all false
set_option maxRecDepth 100000
set_option maxHeartbeats 2000000
noncomputable section
namespace Go.Proofs.Led
open Go Go.Proofs Go.Ab Tryz
def jS(a b:Vc):Int:=if 0<bZ a b then 0 else if bZ a b<0 then 2 else if vdot a b<0 then 1 else 3
def eW4{a b:Vc}(h:0<bZ a b):jS a b=0:=Pm h
def eZ4{a b:Vc}(h:bZ a b<0):jS a b=2:=by unfold jS;rw[Ph (by omega),Pm h]
def eW6{a b:Vc}(c:bZ a b<=0)(d:0<=bZ a b)(h:vdot a b<0):jS a b=1:=by unfold jS;rw[Ph (by omega),Ph (by omega),Pm h]
def fB4{a b:Vc}(c:bZ a b<=0)(d:0<=bZ a b)(h:0<=vdot a b):jS a b=3:=by unfold jS;rw[Ph (by omega),Ph (by omega),Ph (by omega)]
def aQ6(a b:Vc):Sp 246 [vcV a,vcV b] (I (jS a b)):=by
 refine zsp func246 ?_;have f:=eW4 (a:=a) (b:=b);have g:=eW6 (a:=a) (b:=b);have i:=eZ4 (a:=a) (b:=b);have j:=fB4 (a:=a) (b:=b);generalize jS a b=A at*;have k:=kD a b;have l:=dP6 a b;generalize bZ a b=c at*;generalize vdot a b=d at*;repeat' ((conv=>whnf);first|refine zc k ?_|refine zc l ?_|refine zS ?_|refine zl (λe=>?_) (λe=>?_))
 all_goals conv=>whnf
 all_goals first
  |exact aG (f Aa).symm
  |exact aG (i Aa).symm
  |exact aG (g Aa Aa Aa).symm
  |exact aG (j Aa Aa Aa).symm
def bX9(s:Sg):Sp 197 [sgV s] (sgV (s.2,s.1)):=by
 refine zsp func197 ?_;exact N8
def oG(s:Sg)(d:Vc):Prop:=jS s.1 d<jS s.1 s.2\/(jS s.1 d=jS s.1 s.2/\jS s.1 d≠3/\0<bZ d s.2)
def bE0(s:Sg)(d:Vc):Sp 247 [sgV s,vcV d] (DB (oG s d)):=by
 refine zsp func247 ?_;have e:=aQ6 s.1 d;have f:=aQ6 s.1 s.2;have b:=kD d s.2;generalize hP:oG s d=P;have a:P↔oG s d:=FX;unfold oG at a;clear hP;generalize jS s.1 d=x at*;generalize jS s.1 s.2=y at*;generalize bZ d s.2=c at*;repeat' ((conv=>whnf);first|refine zc e ?_|refine zc f ?_|refine zc b ?_|refine zS ?_|refine zT ?_ ?_<;>intro _|fail)
 all_goals conv=>whnf
 all_goals refine aA ?_
 all_goals first
  |exact fE (a.2 Aa)
  |exact aC (λh=>by have h:=a.1 h;omega)
  |(refine aS1 ?_;rw[a];omega)
def jH(s t:Sg):Prop:=jS s.1 t.1=3\/oG s t.1\/oG t s.1
def cT5(s t:Sg):Sp 196 [sgV s,sgV t] (DB (jH s t)):=by
 refine zsp func196 ?_;have d:=aQ6 s.1 t.1;have b:=bE0 s t.1;have c:=bE0 t s.1;generalize hP:jH s t=P;have a:P↔jH s t:=FX;unfold jH at a;clear hP;generalize jS s.1 t.1=x at*;generalize oG s t.1=p at*;generalize oG t s.1=q at*;repeat' ((conv=>whnf);first|refine zc d ?_|refine zc b ?_|refine zc c ?_|refine zS ?_|refine zT ?_ ?_<;>intro _|fail)
 all_goals conv=>whnf
 all_goals refine aA ?_
 all_goals first
  |exact fE (a.2 (by first|exact .inl ‹_› |exact .inr (.inl ‹_›)))
  |(refine fQ ?_;rw[a];exact⟨λh=> .inr (.inr h),λh=>by rcases h with h|h|h<;>first|contradiction|exact h⟩)
end Go.Proofs.Led
