/- Lemmas. -/
import Derived.Test.YtcmgfjaiegpddaaGreatB2
import Derived.Test.YtcmgfjaiegpddaaGreatB4
set_option linter.all false
set_option maxRecDepth 100000
set_option maxHeartbeats 4000000
noncomputable section
namespace Go.Proofs.Led
open Go Go.Proofs Go.Ab
def cN6(L:List Rg)(r:L.length<=100)(g:∀l∈L,l.length<=10000):Sp 235 [.sl (L.map rgV)] (.own 84 (L.flatten.map vcV)):=by
 refine zsp Tryz.func235 ?_;have k:(L.map rgV).length=L.length:=Af
 have b:∀D:List Rg,(∀l∈D,l.length<=10000)->D.flatten.length<=D.length*10000:=by
  intro D;induction D with
  |nil=>intro _;simp
  |cons d D o=>
   intro h;have h1:=h d Af;have q:=o (λl c=>h l (by simp[c]));simp only[List.flatten_cons,OY,PE];omega
 repeat' ((conv=>whnf);first|refine zS ?_|fail)
 refine aU (A:=List Rg) (B:=List Rg) (λD R=>mkSt [(0, .sl (L.map rgV)),(3,I D.flatten.length),(9, .sl (L.map rgV)),(10,I L.length),(11,I D.length)] [] [])
  (λD R=>L=D++R) (λD R=>R.length) [] L ?_ rfl (λD R f=>?_)
 exact zj;have h1:L=D++R:=f;have a:L.length=D.length+R.length:=BD;have j:=b D (λl c=>g l (by rw[h1];simp[c]));cases R with
 |cons x R=>
  rw[PE]at a;have n:=g x BD;have i:(x.map vcV).length=x.length:=Af;repeat' ((conv=>whnf);first|omega|refine zS ?_|refine zT ?_ ?_<;>intro _|fail)
  conv=>whnf
  refine⟨(D++[x],R),?_,?_,?_⟩
  ·refine dV ?_ ?_ ?_ ?_
   all_goals repeat' (first|exact trivial|refine And.intro ?_ ?_|with_reducible rfl|exact(λh=>Ag)|exact Po _|omega|exact rfl)
   show(D.flatten.length:Int)+((x.map vcV).length:Nat)=((D++[x]).flatten.length:Nat);rw[i];simp;show(D.length:Int)+1=(D++[x]).length;simp
  show L=D++[x] ++R;rw[h1];simp;show R.length< (x::R).length;simp
 |nil=>
  have e:L=D:=BD;simp at a;repeat' ((conv=>whnf);first|omega|refine zc (dP8 D.flatten.length Aa) ?_|refine zS ?_|refine zT ?_ ?_<;>intro _|fail)
  clear h1 f a j
  refine aU (A:=List Rg) (B:=List Rg) (λD R=>mkSt [(6, .arr 24 D.length),(25, .sl (L.map rgV)),(26,I L.length),(27,I D.length)] [] [(24,⟨D.length, .own,84,D.flatten.map vcV⟩)])
   (λD R=>L=D++R) (λD R=>R.length) [] L ?_ rfl (λD R f=>?_)
  exact zj;have h1:L=D++R:=f;have a:L.length=D.length+R.length:=BD;have j:=b D (λl c=>g l (by rw[h1];simp[c]));cases R with
  |cons x R=>
   rw[PE]at a;have n:=g x BD;repeat' ((conv=>whnf);first|omega|refine iH rfl (.inl rfl) rfl (OZ rfl) (λy hy=>AP) (by show(List.map vcV D.flatten).length+(List.map vcV x).length<=_;rw[P6,P6];omega) ?_|refine zS ?_|refine zT ?_ ?_<;>intro _|fail)
   conv=>whnf
   refine⟨(D++[x],R),?_,?_,?_⟩
   ·refine dV ?_ ?_ ?_ ?_
    all_goals repeat' (first|exact trivial|refine And.intro ?_ ?_|with_reducible rfl|exact(λh=>Ag)|exact Po _|omega|exact rfl)
    all_goals first
     |(show D.length+1=(D++[x]).length;simp;done)
     |(show List.map vcV D.flatten++List.map vcV x=List.map vcV (D++[x]).flatten;simp;done)
     |(show(D.length:Int)+1=(D++[x]).length;simp;done)
   show L=D++[x] ++R;rw[h1];simp;show R.length< (x::R).length;simp
  |nil=>
   have e:L=D:=BD;simp at a;repeat' ((conv=>whnf);first|omega|refine zS ?_|refine zT ?_ ?_<;>intro _|fail)
   conv=>whnf
   refine⟨⟨⟨rfl,rfl,rfl,?_⟩,trivial⟩,rfl,λ_ h=>Ag⟩;show List.map vcV D.flatten=List.map vcV L.flatten;rw[e]
def dT1{xs ys:List V}{X Y Z:Rg}(d:xs=X.map vcV)(e:ys=Y.map vcV)(f:Z=X++Y)(b:X.length<=10000)(c:Y.length<=10000):Sp 235 [.sl [.sl xs, .sl ys]] (.own 84 (Z.map vcV)):=by
 subst d e f
 have:=cN6 [X,Y] Af (λl a=>by
  rcases P5.1 a with rfl|a;exact b
  cases Py.1 a;exact c)
 rwa [show [X,Y].flatten=X++Y from Af]at this
def bJ7{r:Rg}(h:dM r):gQ r=wL r:=Pm h
def eJ3{r:Rg}(h:¬dM r):gQ r=[] :=Ph h
def aU6(r:Rg)(b:r.length<=1000000):Sp 187 [rgV r] (.sl ((gQ r).map vcV)):=by
 refine zsp Tryz.func187 ?_;have m:(r.map vcV).length=r.length:=Af;by_cases c:dM r
 ·rw[bJ7 c]
  have a:r≠ [] :=λh=>by have:=c.1;rw[h]at this;simp at this
  have f:=c.2.1;obtain⟨j,e,_,l⟩:=aT6 (k:=0) (eH8 a);have d:bZ1 (wO r) r=j:=by unfold bZ1;rw[e]
  have hi:=cJ4 r (wO r) b;rw[d]at hi;have g:wL r=r.drop j++r.take j:=by unfold wL;rw[e];rfl
  rw[g]
  have i:=xX (dT1 (xs:=((r.map vcV).take (((r.map vcV).length:Nat):Int).toNat).drop ((j:Nat):Int).toNat) (ys:=((r.map vcV).take ((j:Nat):Int).toNat).drop (0:Int).toNat) (X:=r.drop j) (Y:=r.take j) (Z:=r.drop j++r.take j)
   (by rw[Qc,Qc,Rn,List.map_drop]) (by rw[Qc,SB];rfl) rfl CB Bd)
  repeat' ((conv=>whnf);first|(exfalso;contradiction)|refine zc (lN r b) ?_|refine zc (cL6 r b a) ?_|refine bW8 [] [(20,[88888])] trivial Ac ?_|refine fU ⟨Aa,Aa,Aa, .inr (λx n=>by obtain⟨v,_,rfl⟩:=PI.1 n;rfl)⟩ ?_|refine zh (i) [] ?_|refine zS ?_|refine zT ?_ ?_<;>intro _|fail)
  all_goals conv=>whnf
  exact LD
 rw[eJ3 c];repeat' ((conv=>whnf);first|(exfalso;contradiction)|refine zc (lN r b) ?_|refine zS ?_|refine zT ?_ ?_<;>intro _|fail)
 all_goals conv=>whnf
 exact⟨⟨rfl,trivial⟩,rfl,λ_ h=>Ag⟩
end Go.Proofs.Led
