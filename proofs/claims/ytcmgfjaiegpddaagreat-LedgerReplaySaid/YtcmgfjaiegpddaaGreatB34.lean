/- Lemmas. -/
import Derived.Test.YtcmgfjaiegpddaaGreatB22
import Derived.Test.YtcmgfjaiegpddaaGreatB24
set_option linter.all false
set_option maxRecDepth 100000
set_option maxHeartbeats 8000000
noncomputable section
namespace Go.Proofs.Led
open Go Go.Proofs Go.Ab
def DB_t{p:Prop}(h:p):DB p= .lit (.bool true):=PN (λb=>V.lit (.bool b)) (dH.2 h)
def aQ4{e:Event}(l:bI1 e)(m:fewE e):iY e/\e.cuts.length<=12/\e.rests.length<=8/\more e<=21:=by
 obtain⟨⟨v,w,x,j,k⟩,y⟩:=m;obtain⟨⟨⟨g,q,i⟩,r,f⟩,s,t,u⟩:=l;obtain⟨n,z,A,B,o⟩:=j;have a:e.cuts.length<=12:=Aa;have b:e.rests.length<=8:=Aa;refine⟨⟨⟨⟨g,?_,i⟩,Aa,λd c=>⟨(f d c).1,?_,(f d c).2.2⟩⟩,by have:=k.2.2;omega,Aa,Aa⟩,a,b,FP⟩;have:=o.1;omega;have:=(n d c).1;omega
def aL9{s:aJ}{n:Nat}(h:Good s n)(a:n<=1000000):Sp 22 [invV s] (.lit (.bool true)):=by
 have g:=bN0 s (PD h.ok.ls a) (PD h.ok.lp a) h.ok.sz;rw[DB_t (eZ9 h.bal)]at g;exact g
def zB:Sp 5 [] (.lit (.bool true)):=by
 refine zsp Tryz.func5 ?_;obtain⟨q,a,u,r,c,d,g,i,j,e⟩:=eX6;have b:=vX awL eA5 (by show 1+(1+(1+2+1))<=1000000;decide) (by show 3<=1000000;decide);rw[d]at b;change Sp _ _ (.tup [invV ⟨[q],a,u,r,c⟩,I 3,I 0])at b;have f:=aL9 e Ai;have k:(a.map aZ).length=a.length:=Af;repeat' ((conv=>whnf);first|omega|refine bB4 (Le.trans (Le.trans (aZ8 10 rfl (.inl rfl)) (aZ8 12 rfl (.inl rfl))) (le_nil _)) ?_|refine dE3 _ rfl ?_|refine zS ?_|refine zT ?_ ?_<;>intro _|fail)
 all_goals conv=>whnf
 all_goals first
  |exact aK rfl
  |(exfalso;simp_all;done)
  |(exfalso;simp_all;omega)
end Go.Proofs.Led
