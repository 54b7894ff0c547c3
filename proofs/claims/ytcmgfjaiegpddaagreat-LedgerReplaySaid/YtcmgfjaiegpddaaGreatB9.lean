/- Lemmas. -/
import Derived.Test.YtcmgfjaiegpddaaGreatB1
set_option linter.all false
set_option maxRecDepth 100000
noncomputable section
namespace Go.Proofs.Led
open Go Go.Proofs Go.Ab Tryz
def jA(c:Int):Prop:=(97<=c/\c<=122)\/(65<=c/\c<=90)
def isDigit(c:Int):Prop:=48<=c/\c<=57
def fG(c:Int):Prop:=jA c\/isDigit c\/c=95
def iM(s:ByteArray):Prop:=1<=s.size/\s.size<=16/\jA (byteAt s 0)/\∀i,i<s.size->fG (byteAt s i)
def dQ2(c:Int):fnVC T Tryz.prog Tryz.f115 [U c] (.lit (.bool (decB (jA c)))):=by
 repeat' ((conv=>whnf);first|refine zS ?_|refine zT ?_ ?_<;>intro _|fail)
 all_goals conv=>whnf
 all_goals refine aA ?_
 exact fE (by unfold jA;omega);refine le_dec ?_;unfold jA;omega;exact aC (by unfold jA;omega);refine le_dec ?_;unfold jA;omega;exact aC (by unfold jA;omega)
def aT4(c:Int):Sp 115 [U c] (.lit (.bool (decB (jA c)))):=zsp func115 (dQ2 c)
def eD7(c:Int):fnVC T Tryz.prog Tryz.f155 [U c] (.lit (.bool (decB (isDigit c)))):=by
 repeat' ((conv=>whnf);first|refine zS ?_|refine zT ?_ ?_<;>intro _|fail)
 all_goals conv=>whnf
 all_goals refine aA ?_
 refine le_dec ?_;unfold isDigit;omega;exact aC (by unfold isDigit;omega)
def cX6(c:Int):Sp 155 [U c] (.lit (.bool (decB (isDigit c)))):=zsp func155 (eD7 c)
def dX8(c:Int):fnVC T Tryz.prog Tryz.f117 [U c] (.lit (.bool (decB (fG c)))):=by
 repeat' ((conv=>whnf);first|refine zc (aT4 c) ?_|refine zc (cX6 c) ?_|refine zS ?_|refine zd (λa=>?_) (λa=>?_))
 all_goals conv=>whnf
 all_goals refine aA ?_
 exact fE (.inl a);exact fE (.inr (.inl a));rename_i b;refine sK ⟨λh=> .inr (.inr h),λh=>?_⟩;rcases h with h|h|h;exact(b h).elim;exact(a h).elim;exact h
def cR8(c:Int):Sp 117 [U c] (.lit (.bool (decB (fG c)))):=zsp func117 (dX8 c)
def wh(p:Nat->Bool):Nat->Nat->Nat
 |0,i=>i
 |f+1,i=>if p i then wh p f (i+1)else i
def dG8{p:Nat->Bool}{f i:Nat}(h:p i=true):wh p (f+1) i=wh p f (i+1):=by rw[wh,Pm h]
def dE4{p:Nat->Bool}{f i:Nat}(h:p i=false):wh p (f+1) i=i:=by rw[wh,Ph (by simp[h])]
def cV4(p:Nat->Bool):∀f i,wh p f i=i+f↔∀j,i<=j->j<i+f->p j=true
 |0,i=>by simp[wh];omega
 |f+1,i=>by
  rw[wh];split;rename_i h;have:=cV4 p f (i+1);grind;grind
def whS(K:Int->Prop)(s:ByteArray)(i:Nat):Nat:=wh (λj=>decB (K (byteAt s j))) (s.size-i) i
def dV7{g:FuncId}{Kd:Int->Prop}(m:∀c,Sp g [U c] (.lit (.bool (decB (Kd c)))))(s:ByteArray)(i:Nat)(o:s.size<=1000000000):
 fnVC T Tryz.prog Tryz.f116 [S s,I i, .fn g []] (I (whS Kd s i)):=by
 repeat' ((conv=>whnf);first|refine zS ?_|fail)
 refine lD (A:=Nat) (λk=>mkSt [(0,S s),(1,I k),(2, .fn g [])] [] []) (λk=>whS Kd s k=whS Kd s i) (λk=>s.size-k) i ?_ rfl (λk d=>?_)
 ·exact zj
 ·change whS Kd s k=whS Kd s i at d
  rcases Qx k s.size with b|n
  ·obtain⟨f,l⟩:∃f,s.size-k=f+1:=⟨s.size-k-1,Aa⟩
   have a:whS Kd s k=wh (λj=>decB (Kd (byteAt s j))) (f+1) k:=by unfold whS;rw[l]
   repeat' ((conv=>whnf);first|omega|refine zc (m (byteAt s k)) ?_|refine zS ?_|refine zd (λe=>?_) (λe=>?_)|refine zl (λb=>?_) (λb=>?_))
   ·conv=>whnf
    refine⟨k+1,?_,?_,Aa⟩
    ·refine dV ?_ ?_ ?_ ?_
     all_goals repeat' (first|exact trivial|refine And.intro ?_ ?_|with_reducible rfl|exact(λh=>Ag)|exact Po _|omega|exact rfl)
    ·show whS Kd s (k+1)=_
     rw[<-d,a,dG8 (dH.2 e)];unfold whS;rw[show s.size- (k+1)=f from Aa]
   ·conv=>whnf
    refine aG ?_;rw[<-d,a,dE4 (dW.2 e)]
  ·have a:whS Kd s k=k:=by unfold whS;rw[show s.size-k=0 from Aa];rfl
   repeat' ((conv=>whnf);first|omega|refine zS ?_|refine zl (λb=>?_) (λb=>?_))
   conv=>whnf
   refine aG ?_;rw[<-d,a]
def cQ3{g:FuncId}{Kd:Int->Prop}(a:∀c,Sp g [U c] (.lit (.bool (decB (Kd c)))))(s:ByteArray)(i:Nat)(b:s.size<=1000000000):
 Sp 116 [S s,I i, .fn g []] (I (whS Kd s i)):=zsp func116 (dV7 a s i b)
def eL8(s:ByteArray):fnVC T Tryz.prog Tryz.f63 [S s] (.lit (.bool (decB (iM s)))):=by
 have g:=dJ7 (s:=s);rcases Qx 16 s.size with k|f
 ·repeat' ((conv=>whnf);first|refine jI (λa=>?_) (λa=>?_)|omega|refine zS ?_|refine zk (λb=>?_) (λb=>?_))
  all_goals conv=>whnf
  all_goals refine aA ?_
  all_goals exact aC (λh=>by have:=h.2.1;omega)
 repeat' ((conv=>whnf);first|refine jI (λa=>?_) (λa=>?_)|omega|refine cK2 ⟨Aa,by have:=mt g.1 a;omega⟩ ?_|refine zc (aT4 (byteAt s 0)) ?_|refine zc (cQ3 cR8 s 0 Aa) ?_|refine zS ?_|refine zd (λc=>?_) (λc=>?_)|refine zk (λb=>?_) (λb=>?_))
 all_goals conv=>whnf
 all_goals refine aA ?_
 exact aC (λh=>by have:=h.1;have:=g.2 a;omega);refine sK ?_;have l:=cV4 (λj=>decB (fG (byteAt s j))) s.size 0;have d:whS fG s 0=wh (λj=>decB (fG (byteAt s j))) s.size 0:=rfl;have m:=mt g.1 a;rw[<-d,QD]at l;have e:(((whS fG s 0:Nat):Int)=(s.size:Int))↔whS fG s 0=s.size:=Aa;show(((whS fG s 0:Nat):Int)=(s.size:Int))↔_;rw[e,l];constructor;intro h;exact⟨Aa,f,c,λi hi=>dH.1 (h i (P8 _) Aa)⟩;intro h j _ n;exact dH.2 (h.2.2.2 j Aa);exact aC (λh=>c h.2.2.1)
def aG6(s:ByteArray):Sp 63 [S s] (.lit (.bool (decB (iM s)))):=zsp func63 (eL8 s)
end Go.Proofs.Led
