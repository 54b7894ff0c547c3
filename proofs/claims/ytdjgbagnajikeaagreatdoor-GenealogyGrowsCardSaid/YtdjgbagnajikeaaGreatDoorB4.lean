/-
  Shapes whose edges meet in one of some ways, walked.
-/
import Derived.Test.YtdjgbagnajikeaaGreatDoorB3
set_option linter.unusedVariables false
set_option linter.unusedSimpArgs false
set_option maxRecDepth 100000
set_option maxHeartbeats 4000000
noncomputable section
namespace Go.Proofs.Led
open Go Go.Proofs Go.Ab
theorem fst_eq{n:Int}{D R:List Int}(h:∀y∈D,¬n=y):fst (λy=>n=y) (D++n::R)=D.length:=wH (λy a=>by rw[dW.2 (h y a)];rfl) (by rw[dH.2 rfl];rfl)
theorem bM4(l:List Int)(n:Int)(f:l.length<=1000000):Sp 338 [.sl (l.map I),I n] (I (fstI (λy=>n=y) l)):=by
 refine zsp Tryz.func338 ?_;have e:(l.map I).length=l.length:=Ae
 repeat' ((conv=>whnf);first|refine zS ?_|fail)
 refine aU (A:=List Int) (B:=List Int) (λD R=>mkSt [(0, .sl (l.map I)),(1,I n),(6, .sl (l.map I)),(7,I l.length),(8,I D.length)] [] []) (λD R=>l=D++R/\∀y∈D,¬n=y) (λD R=>R.length) [] l ?_ ⟨rfl,Ae⟩ (λD R hp=>?_)
 ·exact zj
 obtain⟨hp,hD⟩:=hp
 cases R with
 |nil=>
  have b:l.length=D.length:=Ad
  repeat' ((conv=>whnf);first|omega|refine zS ?_|refine zl (λa=>?_) (λa=>?_))
  all_goals conv=>whnf
  refine aG ?_;unfold fstI;rw[Q5 (iO.2 EY)]
 |cons y R=>
  have b:=aO hp
  repeat' ((conv=>whnf);first|omega|refine zS ?_|refine zl (λa=>?_) (λa=>?_)|refine ze (λd=>?_) (λd=>?_))
  all_goals conv=>whnf
  ·subst d
   refine aG ?_;unfold fstI;rw[hp,fst_eq hD,Q9 Ae]
  ·refine⟨(D++[y],R),?_,⟨Ad,λz c=>?_⟩,Ae⟩
   ·exact I8
   ·rcases QJ.1 c with c|c
    ·exact hD z c
    ·rw[QI.1 c];assumption
theorem dK5(l:List Int)(n:Int)(f:l.length<=1000000):Sp 301 [.sl (l.map I),I n] (DB (n∈l)):=by
 refine zsp Tryz.func301 ?_
 repeat' ((conv=>whnf);first|refine zc (bM4 l n f) ?_|refine zS ?_|fail)
 all_goals conv=>whnf
 all_goals refine aA (le_dec ?_)
 have h:=iO (Q:=λy=>n=y) (l:=l);unfold fstI;constructor
 ·intro c
  split at c
  ·rename_i a
   exact Um λd=>(h.2 (λm b e=>d (by rw[e];exact b))) a
  ·omega
 ·intro b
  split
  ·omega
  ·rename_i a
   exact(h.1 a n b rfl).elim
theorem bV2{s:Sh}(a:gV s)(b:s.holes.length<=6):(aC0 s).length<=7000000:=bC1 a b (D:=rings s) (R:=[]) Ae
def rJ(a b:Sh)(ways:List Int):Prop:=∃x∈aC0 a,∃y∈aC0 b,dG x y∈ways
theorem bX6(a b:Sh)(c:List Int)(j:gV a)(e:a.holes.length<=6)(i:gV b)(d:b.holes.length<=6)(m:c.length<=1000000):Sp 251 [shV a,shV b, .sl (c.map I)] (DB (rJ a b c)):=by
 refine zsp Tryz.func251 ?_;have g:=aV8 a j e;have f:=aV8 b i d
 have k:=bV2 j e;have n:=bV2 i d
 generalize hP:rJ a b c=P;have hr:P↔rJ a b c:=GI;clear hP;unfold rJ at hr;generalize aC0 a=A at*;generalize aC0 b=B at*
 repeat' ((conv=>whnf);first|refine zc f ?_|refine zc g ?_|refine zS ?_|fail)
 conv=>whnf
 refine aU (A:=List Sg) (B:=List Sg) (λD R=>mkSt [(2, .sl (c.map I)),(7, .lit (.bool false)),(8, .arr 14 0),(16, .arr 16 0),(17,I A.length),(18,I D.length)] [] [(14,⟨0, .own,270,B.map sgV⟩),(16,⟨0, .own,270,A.map sgV⟩)]) (λD R=>A=D++R/\∀x∈D,∀y∈B,¬dG x y∈c) (λD R=>R.length) [] A ?_ ⟨rfl,Ae⟩ (λD R hp=>?_)
 ·exact II
 obtain⟨hp,hD⟩:=hp
 cases R with
 |nil=>exact J9
 |cons x R=>
  have hlen:=aO hp
  repeat' ((conv=>whnf);first|omega|refine dS rfl rfl D6 ?_|refine aF (l:=A) (A:=D) (x:=x) (B:=R) hp Aa ?_|refine zS ?_|refine zT ?_ ?_<;>intro _|fail)
  refine aU (A:=List Sg) (B:=List Sg) (λE S=>mkSt [(2, .sl (c.map I)),(7, .lit (.bool false)),(8, .arr 14 0),(10, .box 10 0),(16, .arr 16 0),(17,I A.length),(18,I D.length),(22, .arr 14 0),(23,I B.length),(24,I E.length)] [(10,(sgV x).cells)] [(14,⟨0, .own,270,B.map sgV⟩),(16,⟨0, .own,270,A.map sgV⟩)]) (λE S=>B=E++S/\∀y∈E,¬dG x y∈c) (λE S=>S.length) [] B ?_ ⟨rfl,Ae⟩ (λE S hq=>?_)
  ·exact II
  obtain⟨hq,hE⟩:=hq
  cases S with
  |nil=>exact MN
  |cons y S=>
   have hlen2:=aO hq
   repeat' ((conv=>whnf);first|omega|refine dS rfl rfl D7 ?_|refine aF (l:=B) (A:=E) (x:=y) (B:=S) hq Aa ?_|refine zc (aS9 x y) ?_|refine zc (dK5 c (dG x y) m) ?_|refine zS ?_|refine zT ?_ ?_<;>intro _|fail)
   all_goals conv=>whnf
   all_goals first
    |exact aA (fE (hr.2 ⟨x,Ad,y,Ap,Ag⟩))
    |skip
   exact PU
def arN(i:Nat)(r:Rg)(k:Nat):Vc:=if 0<i then mY r k else iU r k
def arL(i:Nat)(r:Rg)(k:Nat):Vc:=if 0<i then iU r k else mY r k
def dJ(i:Nat)(r:Rg)(p:Vc)(k:Nat):Option Sg:=
 open Classical in if r.getD k z0=p then some (vsub (arN i r k) p,vsub (arL i r k) p)
 else if arN i r k≠p/\eX (r.getD k z0,arN i r k) p then some (vsub (arN i r k) p,vsub (r.getD k z0) p)else none
def qY(i:Nat)(r:Rg)(p:Vc):Option Sg:=(List.range r.length).findSome? (dJ i r p)
def nR(p:Vc):Nat->List Rg->Option Sg
 |_,[] =>none
 |i,r::R=>(qY i r p).or (nR p (i+1) R)
def jE(s:Sh)(p:Vc):Sg:=(nR p 0 (rings s)).getD ((0,0),(0,0))
theorem bZ2{i:Nat}{r:Rg}{p:Vc}(h:∀k,k<r.length->dJ i r p k=none):qY i r p=none:=by
 unfold qY;simp_all
theorem range_split{n k:Nat}(h:k<n):List.range n=List.range k++k::(List.range n).drop (k+1):=by
 apply List.ext_getElem?;grind
theorem bZ8{i:Nat}{r:Rg}{p:Vc}{k:Nat}{x:Sg}(hk:k<r.length)(h:∀j,j<k->dJ i r p j=none)(hx:dJ i r p k=some x):qY i r p=some x:=by
 unfold qY;exact OG
theorem cU6{p:Vc}{i:Nat}{r:Rg}{R:List Rg}{x:Sg}(h:qY i r p=some x):nR p i (r::R)=some x:=by
 rw[nR,h];rfl
theorem cR6{p:Vc}{i:Nat}{r:Rg}{R:List Rg}(h:qY i r p=none):nR p i (r::R)=nR p (i+1) R:=by
 rw[nR,h];rfl
theorem aW8(s:Sh)(p:Vc)(v:gV s)(G:s.holes.length<=6):Sp 305 [shV s,vcV p] (sgV (jE s p)):=by
 refine zsp Tryz.func305 ?_;have C:=aW6 s v;have g:∀r∈rings s,r.length<=1000000:=λr F=>v.mem F
 have w:(rings s).length<=7:=Fe;have o:∀x:Sg,nR p 0 (rings s)=some x->sgV (jE s p)=sgV x:=λx h=>by unfold jE;rw[h];rfl
 have t:nR p 0 (rings s)=none->sgV (jE s p)=sgV ((0,0),(0,0)):=λh=>by unfold jE;rw[h];rfl
 generalize sgV (jE s p)=X at*;generalize rings s=rs at*;have y:(rs.map rgV).length=rs.length:=Ae
 repeat' ((conv=>whnf);first|refine zS ?_|fail)
 refine aU (A:=List Rg) (B:=List Rg) (λD R=>mkSt [(2, .box 2 0),(3, .box 3 0),(4, .box 4 0),(13, .arr 13 0),(14,I rs.length),(15,I D.length)] [(2,(shV s).cells),(3,(vcV p).cells),(4,[I 0,I 0,I 0,I 0])] [(13,⟨0, .own,75,rs.map rgV⟩)]) (λD R=>rs=D++R/\nR p 0 rs=nR p D.length R) (λD R=>R.length) [] rs ?_ ⟨rfl,rfl⟩ (λD R hp=>?_)
 ·exact IE
 obtain⟨hp,q⟩:=hp
 cases R with
 |nil=>
  have d:rs.length=D.length:=Ad;have b:=t (by rw[q];rfl)
  subst b
  repeat' ((conv=>whnf);first|omega|refine zS ?_|refine zT ?_ ?_<;>intro _|fail)
  all_goals conv=>whnf
  all_goals exact zE
 |cons r R=>
  have d:=aO hp;have E:=g r Ad
  have z:(r.map vcV).length=r.length:=Ae
  repeat' ((conv=>whnf);first|omega|refine dS rfl rfl Du ?_|refine zS ?_|refine zT ?_ ?_<;>intro _|fail)
  refine lD (A:=Nat) (λk=>mkSt [(2, .box 2 0),(3, .box 3 0),(4, .box 4 0),(5,I D.length),(6,rgV r),(13, .arr 13 0),(14,I rs.length),(15,I D.length),(20,rgV r),(21,I r.length),(22,I k)] [(2,(shV s).cells),(3,(vcV p).cells),(4,[I 0,I 0,I 0,I 0])] [(13,⟨0, .own,75,rs.map rgV⟩)]) (λk=>k<=r.length/\∀j,j<k->dJ D.length r p j=none) (λk=>r.length-k) 0 ?_ ⟨Aa,λj hj=>absurd hj Aa⟩ (λk u=>?_)
  ·exact zj
  obtain⟨u,hN⟩:=u;by_cases c:k<r.length
  ·have i:(k+1)% r.length<r.length:=RV _ Aa
   have f:(k+r.length-1)% r.length<r.length:=RV _ Aa;have n:∀x,dJ D.length r p k=some x->nR p 0 rs=some x:=λx b=>by rw[q];exact cU6 (bZ8 c hN b)
   by_cases m:0<D.length
   ·have eN:arN D.length r k=mY r k:=Q9 m
    have eL:arL D.length r k=iU r k:=Q9 m
    repeat' ((conv=>whnf);first|omega|refine cC0 [(6,999),(27,999),(30,999),(32,999),(33,999),(35,999),(37,999),(41,999),(43,999),(44,999),(9,9),(10,10)] Af Ac ?_|refine uM Aa ?_|refine aB (l:=r) BO ?_|refine aB (l:=r) FU ?_|refine sW (k:=(k+1)% r.length) (kS Aa) i ?_|refine sW (k:=(k+r.length-1)% r.length) (kS Aa) f ?_|refine sW (k:=k) Aa c ?_|refine aT1 ?_|refine aB4 (λhv=>?_) (λhv=>?_)|refine zc (fF (mY r k) p) ?_|refine zc (fF (iU r k) p) ?_|refine zc (fF (r.getD k z0) p) ?_|refine zc (yS (r.getD k z0,mY r k) p) ?_|refine zS ?_|refine zT ?_ ?_<;>intro _|fail)
    all_goals conv=>whnf
    ·have b:=o (vsub (mY r k) p,vsub (iU r k) p) (n _ FN)
     subst b;all_goals exact zE
    ·exact JD
    ·have b:=o (vsub (mY r k) p,vsub (r.getD k z0) p) (n _ CY)
     subst b;all_goals exact zE
    ·exact JB
   ·have eN:arN D.length r k=iU r k:=Q5 m
    have eL:arL D.length r k=mY r k:=Q5 m
    repeat' ((conv=>whnf);first|omega|refine cC0 [(6,999),(27,999),(30,999),(32,999),(33,999),(35,999),(37,999),(41,999),(43,999),(44,999),(9,9),(10,10)] Af Ac ?_|refine uM Aa ?_|refine aB (l:=r) BO ?_|refine aB (l:=r) FU ?_|refine sW (k:=(k+1)% r.length) (kS Aa) i ?_|refine sW (k:=(k+r.length-1)% r.length) (kS Aa) f ?_|refine sW (k:=k) Aa c ?_|refine aT1 ?_|refine aB4 (λhv=>?_) (λhv=>?_)|refine zc (fF (iU r k) p) ?_|refine zc (fF (mY r k) p) ?_|refine zc (fF (r.getD k z0) p) ?_|refine zc (yS (r.getD k z0,iU r k) p) ?_|refine zS ?_|refine zT ?_ ?_<;>intro _|fail)
    all_goals conv=>whnf
    ·have b:=o (vsub (iU r k) p,vsub (mY r k) p) (n _ FN)
     subst b;all_goals exact zE
    ·exact JD
    ·have b:=o (vsub (iU r k) p,vsub (r.getD k z0) p) (n _ CY)
     subst b;all_goals exact zE
    ·exact JB
  ·have e:k=r.length:=by omega
   subst e
   repeat' ((conv=>whnf);first|omega|refine zS ?_|refine zT ?_ ?_<;>intro _|fail)
   all_goals conv=>whnf
   refine⟨(D++[r],R),?_,⟨Ad,by rw[q,cR6 (bZ2 hN)];simp⟩,Ae⟩
   exact MQ
abbrev eU0(g:FuncId)(Q:Sg->Sg->Prop):Prop:=∀x y,Sp g [sgV x,sgV y] (DB (Q x y))
def touchAt(a b:Sh)(Q:Sg->Sg->Prop)(p:Vc):Prop:=lJ a p=1->lJ b p=1->Q (jE a p) (jE b p)
def bD2(a b:Sh)(Q:Sg->Sg->Prop):Prop:=∀p∈rV a++rV b,touchAt a b Q p
theorem cZ6{g:FuncId}{Q:Sg->Sg->Prop}(K:eU0 g Q)(a b:Sh)(m:gV a)(d:a.holes.length<=6)(n:gV b)(e:b.holes.length<=6):Sp 253 [shV a,shV b, .fn g []] (DB (bD2 a b Q)):=by
 refine zsp Tryz.func253 ?_;have i:=aJ3 a m d;have k:=aJ3 b n e
 have J:=cH3 m d;have G:=cH3 n e
 change Sp _ _ (.own 97 ((rV a).map vcV))at i;change Sp _ _ (.own 97 ((rV b).map vcV))at k;generalize E:bD2 a b Q=P;have F:P↔∀p∈rV a++rV b,touchAt a b Q p:=by rw[<-E];exact Rt
 clear E;generalize rV a=A at*;generalize rV b=B at*;have N:(A.map vcV).length=A.length:=Ae;have S:(B.map vcV).length=B.length:=Ae
 repeat' ((conv=>whnf);first|refine zc i ?_|refine zc k ?_|refine iH rfl (.inl rfl) rfl (QC rfl) (aM5 _) (show(A.map vcV).length+(B.map vcV).length<=1000000000 from Aa) ?_|refine zS ?_|fail)
 all_goals conv=>whnf
 have O:(A++B).length=A.length+B.length:=QG;have c:A.map vcV++B.map vcV=(A++B).map vcV:=Ae
 generalize T:A++B=C at*;have M:(C.map vcV).length=C.length:=Ae;refine aU (A:=List Vc) (B:=List Vc) (λD R=>mkSt [(2, .fn g []),(3, .box 3 0),(4, .box 4 0),(13, .arr 10 1),(14,I C.length),(15,I D.length)] [(3,(shV a).cells),(4,(shV b).cells)] [(10,⟨1, .own,97,C.map vcV⟩)]) (λD R=>C=D++R/\∀q∈D,touchAt a b Q q) (λD R=>R.length) [] C ?_ ⟨rfl,Ae⟩ (λD R hp=>?_)
 ·rw[<-c]
  refine dV ?_ ?_ ?_ ?_;all_goals repeat' (first|exact trivial|refine And.intro ?_ ?_|with_reducible rfl|exact(λh=>Ah)|exact QH _|omega|exact rfl)
  all_goals (try rw[c,QS])
 obtain⟨hp,w⟩:=hp
 cases R with
 |nil=>
  have f:C.length=D.length:=Ad
  repeat' ((conv=>whnf);first|omega|refine zS ?_|refine zT ?_ ?_<;>intro _|fail)
  all_goals conv=>whnf
  refine aA (fE (F.2 λq y=>?_));rw[hp,QU]at y;exact w q y
 |cons q R=>
  have f:=aO hp;have t:=aD4 a q m
  have v:=aD4 b q n;have o:=aW8 a q m d
  have s:=aW8 b q n e;have u:=K (jE a q) (jE b q)
  have U:touchAt a b Q q↔(lJ a q=1->lJ b q=1->Q (jE a q) (jE b q)):=Rt;have r:q∈C:=Ad
  repeat' ((conv=>whnf);first|omega|refine dS rfl rfl (by show 0<=_/\_< ((C.map vcV).length:Int);omega) ?_|refine aF (l:=C) (A:=D) (x:=q) (B:=R) hp Aa ?_|refine zc t ?_|refine zc v ?_|refine zc o ?_|refine zc s ?_|refine zc u ?_|refine zS ?_|refine zT ?_ ?_<;>intro _|fail)
  all_goals conv=>whnf
  all_goals first
   |exact aA (aC (λh=>absurd ((F.1 h) q r Ag Ag) Ag))
   |skip
  all_goals refine⟨(D++[q],R),?_,⟨Ad,λz j=>?_⟩,Ae⟩
  all_goals first
   |(rcases QJ.1 j with j|j
     ·exact w z j
     ·rw[QI.1 j]
      exact λH L=>by first|assumption|exact absurd H (by assumption)|exact absurd L (by assumption))
   |skip
  all_goals simp only[QG,QK]
  ·exact zj
  ·exact zj
  ·exact zj
def aO3(c s:Sh):Prop:=¬rJ c s [2]/\¬bL9 s c 0/\¬bL9 c s 2/\bD2 c s (λx y=>¬jH y (x.2,x.1))
theorem dP2(x y:Sg):Sp 254 [sgV x,sgV y] (DB (¬jH y (x.2,x.1))):=by
 refine zsp Tryz.func254 ?_;have b:=bX9 x;have a:=cT5 y (x.2,x.1)
 repeat' ((conv=>whnf);first|refine zc b ?_|refine zc a ?_|refine zS ?_|fail)
 all_goals conv=>whnf
 all_goals exact aA (aF6 dW)
theorem eS8:eU0 254 (λx y=>¬jH y (x.2,x.1)):=λx y=>dP2 x y
theorem cG3{s:Sh}(h:bG s):(rV s).length<=80:=by
 unfold rV;rw[List.length_flatten];exact h.2.2.1
theorem yB{s:Sh}(h:bG s):s.holes.length<=6:=h.1
theorem iT{s:Sh}(h:bG s):gV s:=by
 have a:∀r∈rings s,r.length<=40:=λr hr=>(h.2.1 r hr).2.1;refine⟨?_,?_,λr hr=>?_⟩
 ·have:=a s.outer AQ
  omega
 ·have:=h.1
  omega
 ·have:=a r Df
  omega
theorem cO1(c s:Sh)(b:bG c)(a:bG s):Sp 206 [shV c,shV s] (DB (aO3 c s)):=by
 refine zsp Tryz.func206 ?_;have n:=cG3 b;have o:=cG3 a
 have e:=bX6 c s [2] (iT b) (yB b) (iT a) (yB a) Ai;have i:=bK5 s c 0 (iT a) (yB a) (iT b) Aa
 have f:=bK5 c s 2 (iT b) (yB b) (iT a) Aa;have g:=cZ6 eS8 c s (iT b) (yB b) (iT a) (yB a)
 have d:aO3 c s↔¬rJ c s [2]/\¬bL9 s c 0/\¬bL9 c s 2/\bD2 c s (λx y=>¬jH y (x.2,x.1)):=Rt;generalize aO3 c s=P at*;generalize rJ c s [2] =k at*;generalize bL9 s c 0=m at*;generalize bL9 c s 2=l at*;generalize bD2 c s (λx y=>¬jH y (x.2,x.1))=j at*
 repeat' ((conv=>whnf);first|refine zc e ?_|refine zc i ?_|refine zc f ?_|refine zc g ?_|refine zS ?_|refine zT ?_ ?_<;>intro _|fail)
 all_goals conv=>whnf
 all_goals first
  |exact aA (aC (λh=>absurd Ag (d.1 h).1))
  |exact aA (aC (λh=>absurd Ag (d.1 h).2.1))
  |exact aA (aC (λh=>absurd Ag (d.1 h).2.2.1))
  |exact aA (fQ ⟨λh=>d.2 ⟨Ag,Ag,Ag,h⟩,λh=>(d.1 h).2.2.2⟩)
  |skip
def lI(c s:Sh):Prop:=bG c/\bG s/\aO3 c s
def pO(c s:Sh):Int:=open Classical in if bG c/\bG s then 0 else 11
theorem aA6(c s:Sh)(d:gV c)(a:gV s):Sp 158 [shV c,shV s] (.tup [DB (lI c s),I (pO c s)]):=by
 refine zsp Tryz.func158 ?_;have m1:=kK c d;have m2:=kK s a
 by_cases h1:bG c
 ·by_cases h2:bG s
  ·have e1:DB (lI c s)=DB (aO3 c s):=Rh (λb=>V.lit (.bool b)) (fQ ⟨λh=>h.2.2,λh=>⟨h1,h2,h⟩⟩)
   have e2:pO c s=0:=Q9 ⟨h1,h2⟩;have m3:=cO1 c s h1 h2
   exact Ox
  ·exact Jl
 ·exact Jm
def jA(c:Int):Prop:=(97<=c/\c<=122)\/(65<=c/\c<=90)
def isDigit(c:Int):Prop:=48<=c/\c<=57
def fG(c:Int):Prop:=jA c\/isDigit c\/c=95
def iM(s:ByteArray):Prop:=1<=s.size/\s.size<=16/\jA (byteAt s 0)/\∀i,i<s.size->fG (byteAt s i)
theorem dQ2(c:Int):fnVC T Tryz.prog Tryz.f141 [U c] (.lit (.bool (decB (jA c)))):=by
 repeat' ((conv=>whnf);first|refine zS ?_|refine zT ?_ ?_<;>intro _|fail)
 all_goals conv=>whnf
 all_goals refine aA ?_
 ·exact fE Gy
 ·refine le_dec ?_
  unfold jA;omega
 ·exact aC Gy
 ·refine le_dec ?_
  unfold jA;omega
 ·exact aC Gy
theorem aT4(c:Int):Sp 141 [U c] (.lit (.bool (decB (jA c)))):=zsp Tryz.func141 (dQ2 c)
theorem eD7(c:Int):fnVC T Tryz.prog Tryz.f187 [U c] (.lit (.bool (decB (isDigit c)))):=by
 repeat' ((conv=>whnf);first|refine zS ?_|refine zT ?_ ?_<;>intro _|fail)
 all_goals conv=>whnf
 all_goals refine aA ?_
 ·refine le_dec ?_
  unfold isDigit;omega
 ·exact aC (by unfold isDigit;omega)
theorem cX6(c:Int):Sp 187 [U c] (.lit (.bool (decB (isDigit c)))):=zsp Tryz.func187 (eD7 c)
theorem dX8(c:Int):fnVC T Tryz.prog Tryz.f143 [U c] (.lit (.bool (decB (fG c)))):=by
 repeat' ((conv=>whnf);first|refine zc (aT4 c) ?_|refine zc (cX6 c) ?_|refine zS ?_|refine zd (λa=>?_) (λa=>?_))
 all_goals conv=>whnf
 all_goals refine aA ?_
 ·exact fE (.inl a)
 ·exact fE (.inr (.inl a))
 ·rename_i b
  refine sK ⟨λh=> .inr (.inr h),λh=>?_⟩;rcases h with h|h|h
  ·exact(b h).elim
  ·exact(a h).elim
  ·exact h
theorem cR8(c:Int):Sp 143 [U c] (.lit (.bool (decB (fG c)))):=zsp Tryz.func143 (dX8 c)
def wh(p:Nat->Bool):Nat->Nat->Nat
 |0,i=>i
 |f+1,i=>if p i then wh p f (i+1)else i
theorem dG8{p:Nat->Bool}{f i:Nat}(h:p i=true):wh p (f+1) i=wh p f (i+1):=by rw[wh,Q9 h]
theorem dE4{p:Nat->Bool}{f i:Nat}(h:p i=false):wh p (f+1) i=i:=by rw[wh,Q5 (by simp[h])]
theorem cV4(p:Nat->Bool):∀f i,wh p f i=i+f↔∀j,i<=j->j<i+f->p j=true
 |0,i=>by simp[wh];omega
 |f+1,i=>by
  rw[wh];split
  ·rename_i h
   have:=cV4 p f (i+1);grind
  ·grind
def whS(K:Int->Prop)(s:ByteArray)(i:Nat):Nat:=wh (λj=>decB (K (byteAt s j))) (s.size-i) i
theorem dV7{g:FuncId}{Kd:Int->Prop}(b:∀c,Sp g [U c] (.lit (.bool (decB (Kd c)))))(s:ByteArray)(i:Nat)(l:s.size<=1000000000):
 fnVC T Tryz.prog Tryz.f142 [S s,I i, .fn g []] (I (whS Kd s i)):=by
 repeat' ((conv=>whnf);first|refine zS ?_|fail)
 refine lD (A:=Nat) (λk=>mkSt [(0,S s),(1,I k),(2, .fn g [])] [] []) (λk=>whS Kd s k=whS Kd s i) (λk=>s.size-k) i ?_ rfl (λk hk=>?_)
 ·exact zj
 ·change whS Kd s k=whS Kd s i at hk
  rcases Ry k s.size with hlt|e
  ·obtain⟨f,d⟩:∃f,s.size-k=f+1:=⟨s.size-k-1,Aa⟩
   have hks:whS Kd s k=wh (λj=>decB (Kd (byteAt s j))) (f+1) k:=by unfold whS;rw[d]
   repeat' ((conv=>whnf);first|omega|refine zc (b (byteAt s k)) ?_|refine zS ?_|refine zd (λa=>?_) (λa=>?_)|refine zl (λhlt=>?_) (λhlt=>?_))
   ·conv=>whnf
    refine⟨k+1,?_,?_,Aa⟩
    ·refine dV ?_ ?_ ?_ ?_
     all_goals repeat' (first|exact trivial|refine And.intro ?_ ?_|with_reducible rfl|exact(λh=>Ah)|exact QH _|omega|exact rfl)
    ·show whS Kd s (k+1)=_
     rw[<-hk,hks,dG8 (dH.2 a)];unfold whS;rw[show s.size- (k+1)=f from Aa]
   ·conv=>whnf
    refine aG ?_;rw[<-hk,hks,dE4 (dW.2 a)]
  ·have hks:whS Kd s k=k:=by unfold whS;rw[show s.size-k=0 from Aa];rfl
   exact OH
theorem cQ3{g:FuncId}{Kd:Int->Prop}(a:∀c,Sp g [U c] (.lit (.bool (decB (Kd c)))))(s:ByteArray)(i:Nat)(b:s.size<=1000000000):
 Sp 142 [S s,I i, .fn g []] (I (whS Kd s i)):=zsp Tryz.func142 (dV7 a s i b)
theorem eL8(s:ByteArray):fnVC T Tryz.prog Tryz.f103 [S s] (.lit (.bool (decB (iM s)))):=by
 have c:=dJ7 (s:=s);rcases Ry 16 s.size with d|hsm
 ·repeat' ((conv=>whnf);first|refine jI (λa=>?_) (λa=>?_)|omega|refine zS ?_|refine zk (λb=>?_) (λb=>?_))
  all_goals conv=>whnf
  all_goals refine aA ?_
  all_goals exact aC (λh=>by have:=h.2.1;omega)
 ·repeat' ((conv=>whnf);first|refine jI (λa=>?_) (λa=>?_)|omega|refine cK2 ⟨Aa,by have:=mt c.1 a;omega⟩ ?_|refine zc (aT4 (byteAt s 0)) ?_|refine zc (cQ3 cR8 s 0 Aa) ?_|refine zS ?_|refine zd (λhd=>?_) (λhd=>?_)|refine zk (λb=>?_) (λb=>?_))
  all_goals conv=>whnf
  all_goals refine aA ?_
  ·exact aC (λh=>by have:=h.1;have:=c.2 a;omega)
  ·refine sK ?_
   have hw:=cV4 (λj=>decB (fG (byteAt s j))) s.size 0;have hs0:whS fG s 0=wh (λj=>decB (fG (byteAt s j))) s.size 0:=rfl
   have f:=mt c.1 a;exact NR
  ·exact aC (λh=>hd h.2.2.1)
theorem aG6(s:ByteArray):Sp 103 [S s] (.lit (.bool (decB (iM s)))):=zsp Tryz.func103 (eL8 s)
def kZ(id:Int)(g h:ByteArray):Prop:=1<=id/\id<=1000000/\iM g/\iM h
theorem aI6(id:Int)(g h:ByteArray):Sp 154 [.agg [I id,S g,S h]] (DB (kZ id g h)):=by
 refine zsp Tryz.func154 ?_;have c:=aG6 g;have b:=aG6 h
 have a:kZ id g h↔1<=id/\id<=1000000/\iM g/\iM h:=Rt;generalize kZ id g h=P at*;generalize iM g=d at*;generalize iM h=e at*
 repeat' ((conv=>whnf);first|refine zc c ?_|refine zc b ?_|refine zS ?_|refine zT ?_ ?_<;>intro _|fail)
 all_goals conv=>whnf
 all_goals first
  |exact aA (fQ ⟨λh=>a.2 ⟨Aa,Aa,Ag,h⟩,λh=>(a.1 h).2.2.2⟩)
  |exact aA (aC (λh=>absurd (a.1 h).2.2.1 Ag))
  |exact aA (aC (λh=>by have:=a.1 h;omega))
  |exact aA (le_dec ⟨λh=>Aa,λh=>by have:=a.1 h;omega⟩)
theorem cS6(b:Bar):Sp 159 [barV b] (.agg ([I b.id,S b.grade,S b.heat] ++barC b)):=by
 refine zsp Tryz.func159 ?_;exact Ov
theorem aK4(s:jL):Sp 153 [zJ s] (.agg ([I s.id,S s.grade,S s.heat] ++aA7 s)):=by
 refine zsp Tryz.func153 ?_;exact Ov
theorem cT8{r:Rg}(a:r≠ []):(wL r).length<=r.length+r.length:=by
 unfold wL;grind
theorem aU5{s:Sh}(h:bG s):gV (qO s):=by
 have d:∀r∈rings s,(gQ r).length<=1000000:=λr a=>by
  obtain⟨b,c,_⟩:=h.2.1 r a;rw[bJ7 (h.2.1 r a)];have:=cT8 (r:=r) (λe=>by rw[e]at b;simp at b)
  omega
 rw[aN9 h];refine⟨d s.outer AQ,?_,λr a=>?_⟩
 ·unfold wW
  rw[cX8,QS];have:=h.1;omega
 ·grind [dB0,wW,rings]
def jV(s:Sh):Prop:=bG s/\s=qO s
theorem aD5(s:Sh)(a:gV s):Sp 155 [shV s] (DB (jV s)):=by
 refine zsp Tryz.func155 ?_;have h1:=kK s a;have e:=aU9 s a
 by_cases h:bG s
 ·have d:=cQ8 s (qO s) a (aU5 h)
  have c:DB (jV s)=DB (s=qO s):=Rh (λb=>V.lit (.bool b)) (fQ ⟨λh=>h.2,λq=>⟨h,q⟩⟩);rw[c]
  repeat' ((conv=>whnf);first|(exfalso;contradiction)|refine zc h1 ?_|refine zc e ?_|refine zc d ?_|refine zS ?_|refine zT ?_ ?_<;>intro _|fail)
  all_goals exact zE
 ·have c:DB (jV s)= .lit (.bool false):=Rh (λb=>V.lit (.bool b)) (dW.2 (λq=>h q.1))
  rw[c];exact NW
def dQ(v:Vc):Prop:=0<=min v.1 v.2/\max v.1 v.2<=1900
theorem mJ(v:Vc):Sp 157 [vcV v] (DB (dQ v)):=by
 refine zsp Tryz.func157 ?_;have a:dQ v↔0<=min v.1 v.2/\max v.1 v.2<=1900:=Rt;generalize dQ v=P at*
 repeat' ((conv=>whnf);first|refine zS ?_|refine zT ?_ ?_<;>intro _|fail)
 all_goals conv=>whnf
 all_goals (try simp only[lH,mG]at*)
 all_goals first
  |exact aA (le_dec ⟨λh=>a.2 ⟨Aa,Aa⟩,λh=>by have:=a.1 h;omega⟩)
  |exact aA (aC (λh=>by have:=a.1 h;omega))
def xH(b:Bx):Prop:=b.1.1<b.2.1/\b.1.2<b.2.2
theorem bS8(b:Bx):Sp 259 [bxV b] (DB (xH b)):=by
 refine zsp Tryz.func259 ?_;have a:xH b↔b.1.1<b.2.1/\b.1.2<b.2.2:=Rt;generalize xH b=P at*
 repeat' ((conv=>whnf);first|refine zS ?_|refine zT ?_ ?_<;>intro _|fail)
 all_goals conv=>whnf
 all_goals first
  |exact aA (aS1 ⟨λh=>a.2 ⟨Aa,Aa⟩,λh=>by have:=a.1 h;omega⟩)
  |exact aA (aC (λh=>by have:=a.1 h;omega))
def nV(a b:Bx):Bx:=((max a.1.1 b.1.1,max a.1.2 b.1.2),(min a.2.1 b.2.1,min a.2.2 b.2.2))
theorem cE9(a b:Bx):Sp 261 [bxV a,bxV b] (.tup [bxV (nV a b),DB (xH (nV a b))]):=by
 refine zsp Tryz.func261 ?_;have c:=bS8 (nV a b);unfold nV at c⊢;simp only[<-mG,<-lH]at c⊢
 repeat' ((conv=>whnf);first|refine zc c ?_|refine zS ?_|fail)
 all_goals exact zE
def jT(b:Bx)(by_:Vc):Sh:=qO (sV (vsub b.1 by_) (vsub b.2 by_))
theorem cW6(lo hi:Vc):gV (sV lo hi):=by
 unfold sV;split
 ·exact⟨Ih,Ih,λr a=>by simp[sh0]at a⟩
 ·exact⟨Ae,Ae,λr a=>by simp at a⟩
theorem aJ0(b:Bx)(v:Vc):Sp 260 [bxV b,vcV v] (shV (jT b v)):=by
 refine zsp Tryz.func260 ?_;have e:=fF b.1 v;have d:=fF b.2 v
 have a:=cX1 (vsub b.1 v) (vsub b.2 v);have c:=aU9 _ (cW6 (vsub b.1 v) (vsub b.2 v))
 unfold jT;generalize vsub b.1 v=p at*;generalize vsub b.2 v=q at*;generalize sV p q=r at*;generalize qO r=f at*
 repeat' ((conv=>whnf);first|refine zc e ?_|refine zc d ?_|refine zc a ?_|refine zc c ?_|refine zS ?_|fail)
 all_goals exact zE
def sU(len:Int):Int->List Iv->Prop
 |_,[] =>True
 |e,d::R=>e<=d.1/\d.1<d.2/\d.2<=len/\sU len d.2 R
def fM(b:Bar):Prop:=kZ b.id b.grade b.heat/\1<=b.length/\b.length<=2000/\b.defects.length<=6/\sU b.length 0 b.defects
def bV8(D:List Iv):Int:=match D.getLast? with|some d=>d.2|none=>0
theorem bH3(D:List Iv)(d:Iv):bV8 (D++[d])=d.2:=by unfold bV8;simp
theorem qP(b:Bar)(j:b.defects.length<=1000000):Sp 115 [barV b] (DB (fM b)):=by
 refine zsp Tryz.func115 ?_;have l:=cS6 b;have k:=aI6 b.id b.grade b.heat
 have e:fM b↔kZ b.id b.grade b.heat/\1<=b.length/\b.length<=2000/\b.defects.length<=6/\sU b.length 0 b.defects:=Rt;have hl:(b.defects.map ivV).length=b.defects.length:=Ae
 generalize fM b=P at*;generalize kZ b.id b.grade b.heat=i at*
 repeat' ((conv=>whnf);first|refine zS ?_|refine zT ?_ ?_<;>intro _|fail)
 all_goals conv=>whnf
 all_goals first
  |exact aA (aC (λh=>absurd (e.1 h).1 Ag))
  |exact aA (aC (λh=>by have:=e.1 h;omega))
  |skip
 have g:P↔sU b.length 0 b.defects:=⟨λh=>(e.1 h).2.2.2.2,λh=>e.2 ⟨Ag,Aa,Aa,Aa,h⟩⟩;clear e;refine aU (A:=List Iv) (B:=List Iv) (λD R=>mkSt [(1, .box 1 0),(3,I (bV8 D)),(28, .sl (b.defects.map ivV)),(29,I b.defects.length),(30,I D.length)] [(1,barC b)] []) (λD R=>b.defects=D++R/\(P↔sU b.length (bV8 D) R)) (λD R=>R.length) [] b.defects ?_ ⟨rfl,g⟩ (λD R hp=>?_)
 ·exact JP
 obtain⟨hp,f⟩:=hp
 cases R with
 |nil=>
  have c:b.defects.length=D.length:=Ad
  repeat' ((conv=>whnf);first|omega|refine zS ?_|refine zT ?_ ?_<;>intro _|fail)
  all_goals conv=>whnf
  exact aA (fE (f.2 trivial))
 |cons d R=>
  have c:=aO hp;have a:P↔bV8 D<=d.1/\d.1<d.2/\d.2<=b.length/\sU b.length d.2 R:=f
  repeat' ((conv=>whnf);first|omega|refine zS ?_|refine zT ?_ ?_<;>intro _|fail)
  all_goals conv=>whnf
  all_goals first
   |exact aA (aC (λh=>by have:=a.1 h;omega))
   |skip
  refine⟨(D++[d],R),?_,⟨Ad,?_⟩,Ae⟩
  ·simp only[bH3,QG,QK]
   exact NJ
  ·show P↔sU b.length (bV8 (D++[d])) R
   rw[bH3,a];exact⟨λh=>h.2.2.2,λh=>⟨Aa,Aa,Aa,h⟩⟩
theorem eY2{g:FuncId}{Q:Int->Prop}(hg:∀m,Sp g (I m:: []) (DB (Q m)))(l:List Int)(b:l.length<=1000000):fnVC T Tryz.prog Tryz.f342 [.sl (l.map I), .fn g []] (I (fstI Q l)):=by
 have a:(l.map I).length=l.length:=Ae
 repeat' ((conv=>whnf);first|refine zS ?_|fail)
 refine aU (A:=List Int) (B:=List Int) (λD R=>mkSt [(0, .sl (l.map I)),(1, .fn g []),(7,I l.length),(8,I D.length)] [] [])
  (λD R=>l=D++R/\∀m∈D,¬Q m) (λD R=>R.length) [] l ?_ ⟨rfl,Ae⟩ (λD R hp=>?_)
 ·exact zj
 ·exact Iz
theorem eI6{g:FuncId}{Q:Int->Prop}(a:∀m,Sp g (I m:: []) (DB (Q m)))(l:List Int)(b:l.length<=1000000):Sp 342 [.sl (l.map I), .fn g []] (I (fstI Q l)):=zsp Tryz.func342 (eY2 a l b)
theorem eW3{g:FuncId}{Q:Int->Prop}(a:∀m,Sp g (I m:: []) (DB (Q m)))(l:List Int)(b:l.length<=1000000):fnVC T Tryz.prog Tryz.f308 [.sl (l.map I), .fn g []] (DB (∃m∈l,Q m)):=by
 repeat' ((conv=>whnf);first|refine zc (eI6 a l b) ?_|refine zS ?_|fail)
 exact MW
theorem eB1{g:FuncId}{Q:Int->Prop}(a:∀m,Sp g (I m:: []) (DB (Q m)))(l:List Int)(b:l.length<=1000000):Sp 308 [.sl (l.map I), .fn g []] (DB (∃m∈l,Q m)):=zsp Tryz.func308 (eW3 a l b)
theorem dR5(n:Int):Sp 309 [I n] (DB (n<1\/1000000<n)):=by
 refine zsp Tryz.func309 ?_
 repeat' ((conv=>whnf);first|refine zS ?_|refine zT ?_ ?_<;>intro _|fail)
 all_goals conv=>whnf
 all_goals first
  |exact aA (fE Aa)
  |exact aA (aS1 ⟨λh=>Aa,λh=>Aa⟩)
def nC(n:Int):Prop:=1<=n/\n<=1000000
theorem cV8(n:Int):Sp 258 [.sl [I n]] (DB (nC n)):=by
 refine zsp Tryz.func258 ?_;have d:=eB1 (g:=309) (Q:=λn=>n<1\/1000000<n) (λm=>dR5 m) [n] Ae;have c:DB (∃m∈[n],m<1\/1000000<m)=DB (n<1\/1000000<n):=Rh (λb=>V.lit (.bool b)) (fQ ⟨λ⟨m,h,a⟩=>by rw[QI.1 h]at a;exact a,λh=>⟨n,Ae,h⟩⟩)
 rw[c]at d
 repeat' ((conv=>whnf);first|refine zS ?_|fail)
 all_goals conv=>whnf
 all_goals exact aA (aF6 (dW.trans ⟨λh=>by unfold nC;omega,λh=>by unfold nC at h;omega⟩))
def qQ(s d:Sh):Prop:=jV d/\pO s d=0/\lI s d
def dB(s:jL):Prop:=kZ s.id s.grade s.heat/\0<=s.grain/\s.grain<=2/\jV s.shape/\s.defects.length<=6/\dQ (boxS s.shape).1.1/\dQ (boxS s.shape).1.2/\∀d∈s.defects,qQ s.shape d
def tN(s:jL):Prop:=Fits s.shape/\s.defects.length<=1000000/\∀d∈s.defects,Fits d
theorem fits_sized{s:jL}(h:lK s):tN s:=⟨h.1.fits,h.2.1,λd a=>(h.2.2 d a).fits⟩
theorem aO1(s:Sh)(a:Fits s):Sp 155 [shV s] (DB (jV s)):=by
 by_cases h:bG s
 ·exact aD5 s (iT h)
 ·have h1:=wQ s a
  have c:DB (jV s)= .lit (.bool false):=Rh (λb=>V.lit (.bool b)) (dW.2 (λq=>h q.1));rw[c];refine zsp Tryz.func155 ?_;exact NW
theorem cA3(c s:Sh)(d:bG c)(f:Fits s):Sp 158 [shV c,shV s] (.tup [DB (lI c s),I (pO c s)]):=by
 by_cases a:bG s
 ·exact aA6 c s (iT d) (iT a)
 ·have e:=wQ c (iT d).fits
  have i:=wQ s f;have g:DB (lI c s)= .lit (.bool false):=Rh (λb=>V.lit (.bool b)) (dW.2 (λh=>a h.2.1))
  have j:pO c s=11:=Q5 (λh=>a h.2);rw[g,j];refine zsp Tryz.func158 ?_
  repeat' ((conv=>whnf);first|(exfalso;contradiction)|refine zc e ?_|refine zc i ?_|refine zS ?_|refine zT ?_ ?_<;>intro _|fail)
  all_goals exact zE
theorem aR2(s:jL)(H:tN s):Sp 114 [zJ s] (DB (dB s)):=by
 refine zsp Tryz.func114 ?_;obtain⟨n,G,f⟩:=H;have r:=aK4 s;have u:=aI6 s.id s.grade s.heat
 have t:=aO1 s.shape n;by_cases c:jV s.shape;rotate_left
 ·have a:dB s->kZ s.id s.grade s.heat/\0<=s.grain/\s.grain<=2/\jV s.shape:=λh=>⟨h.1,h.2.1,h.2.2.1,h.2.2.2.1⟩
  generalize dB s=P at*;generalize kZ s.id s.grade s.heat=v at*;generalize jV s.shape=E at*
  repeat' ((conv=>whnf);first|(exfalso;contradiction)|refine zc r ?_|refine zc u ?_|refine zc t ?_|refine zS ?_|refine zT ?_ ?_<;>intro _|fail)
  all_goals conv=>whnf
  all_goals exact aA (aC (λh=>c (a h).2.2.2))
 have g:=c.1;have o:=iT g
 have w:=aS0 s.shape o;have J:=mJ (boxS s.shape).1.1
 have F:=mJ (boxS s.shape).1.2;have a:dB s↔kZ s.id s.grade s.heat/\0<=s.grain/\s.grain<=2/\jV s.shape/\s.defects.length<=6/\dQ (boxS s.shape).1.1/\dQ (boxS s.shape).1.2/\∀d∈s.defects,qQ s.shape d:=Rt
 have hl:(s.defects.map shV).length=s.defects.length:=Ae;have m:∀d,qQ s.shape d↔jV d/\pO s.shape d=0/\lI s.shape d:=λd=>Rt
 generalize dB s=P at*;generalize kZ s.id s.grade s.heat=v at*;generalize jV s.shape=E at*;generalize dQ (boxS s.shape).1.1=L at*;generalize dQ (boxS s.shape).1.2=O at*
 repeat' ((conv=>whnf);first|refine zc r ?_|refine zc u ?_|refine zc t ?_|refine zc w ?_|refine zc J ?_|refine zc F ?_|refine zS ?_|refine zT ?_ ?_<;>intro _|fail)
 all_goals conv=>whnf
 all_goals first
  |exact aA (aC (λh=>absurd (a.1 h).1 Ag))
  |exact aA (aC (λh=>absurd (a.1 h).2.2.2.1 Ag))
  |exact aA (aC (λh=>absurd (a.1 h).2.2.2.2.2.1 Ag))
  |exact aA (aC (λh=>absurd (a.1 h).2.2.2.2.2.2.1 Ag))
  |exact aA (aC (λh=>by have:=(a.1 h).2.1;have:=(a.1 h).2.2.1;have:=(a.1 h).2.2.2.2.1;omega))
  |skip
 have k:P↔∀d∈s.defects,qQ s.shape d:=⟨λh=>(a.1 h).2.2.2.2.2.2.2,λh=>a.2 ⟨Ag,Aa,Aa,Ag,Aa,Ag,Ag,h⟩⟩;clear a;refine aU (A:=List Sh) (B:=List Sh) (λD R=>mkSt [(1, .box 1 0),(53, .sl (s.defects.map shV)),(54,I s.defects.length),(55,I D.length)] [(1,aA7 s)] []) (λD R=>s.defects=D++R/\∀d∈D,qQ s.shape d) (λD R=>R.length) [] s.defects ?_ ⟨rfl,Ae⟩ (λD R hp=>?_)
 ·exact JP
 obtain⟨hp,q⟩:=hp
 cases R with
 |nil=>
  have e:s.defects.length=D.length:=Ad
  repeat' ((conv=>whnf);first|omega|refine zS ?_|refine zT ?_ ?_<;>intro _|fail)
  all_goals conv=>whnf
  refine aA (fE (k.2 λd h=>?_));rw[hp,QU]at h;exact q d h
 |cons d R=>
  have e:=aO hp;have b:d∈s.defects:=Ad
  have C:=cA3 s.shape d g (f d b);have y:=aO1 d (f d b)
  have j:=m d;generalize jV d=N at*;generalize pO s.shape d=M at*;generalize lI s.shape d=K at*
  repeat' ((conv=>whnf);first|omega|refine aB (l:=s.defects) Aa ?_|refine aF (l:=s.defects) (A:=D) (x:=d) (B:=R) hp Aa ?_|refine zc C ?_|refine zc y ?_|refine zS ?_|refine zT ?_ ?_<;>intro _|fail)
  all_goals conv=>whnf
  all_goals first
   |exact aA (aC (λh=>absurd (j.1 (k.1 h d b)).1 Ag))
   |exact aA (aC (λh=>absurd (j.1 (k.1 h d b)).2.1 Ag))
   |exact aA (aC (λh=>absurd (j.1 (k.1 h d b)).2.2 Ag))
   |skip
  refine⟨(D++[d],R),?_,⟨Ad,λz i=>?_⟩,Ae⟩
  ·exact I8
  ·rcases QJ.1 i with i|i
   ·exact q z i
   ·rw[QI.1 i]
    exact j.2 ⟨Ag,Ag,Ag⟩
theorem nU(s:jL)(a:lK s):Sp 114 [zJ s] (DB (dB s)):=aR2 s (fits_sized a)
def aK2(b:Bx)(d:Sh):List Sh:=open Classical in if xH (nV (boxS d).1 b)then [jT (nV (boxS d).1 b) b.1]else []
def kJ(b:Bx)(l:List Sh):List Sh:=l.flatMap (aK2 b)
def remE(s:jL)(b:Bx)(id:Int):Int:=open Classical in
 if¬dB s then 1 else if¬(nC id/\xH b/\dQ b.1/\dQ b.2)then 2 else if¬lI s.shape (jT b (0,0))then 13 else 0
def remS(s:jL)(b:Bx)(id:Int):jL:=if remE s b id=0 then⟨id,s.grade,s.heat,s.grain,jT b b.1,kJ b s.defects⟩else dN
theorem aD2(b:Bx)(v:Vc):gV (jT b v):=by
 unfold jT;by_cases h:bG (sV (vsub b.1 v) (vsub b.2 v))
 ·exact aU5 h
 ·rw[bH5 h]
  exact⟨Ih,Ih,λr a=>by simp[sh0]at a⟩
theorem bX0(b:Bx)(D:List Sh)(d:Sh):kJ b (D++[d])=kJ b D++aK2 b d:=by unfold kJ;simp
theorem yK(b:Bx):∀D:List Sh,(kJ b D).length<=D.length
 | [] =>QH _
 |d::D=>by
  have h:=yK b D;grind [RZ,QG,QM,aK2,kJ]
def aB2(s:jL)(b:Bx)(id:Int)(r:Sh)(X:List Sh)(n:Int):St:=match X with
 | [] =>mkSt [(3, .box 3 0),(4, .box 4 0),(6, .box 6 0),(7,I 0),(10, .box 10 0),(68, .sl (s.defects.map shV)),(69,I s.defects.length),(70,I n)]
   [(3,aA7 s),(4,(bxV b).cells),(6,[I 0,S aI,S aI,I 0,nilV,nilV,nilV]),(10,[I id,S s.grade,S s.heat,I s.grain,rgV r.outer, .sl (r.holes.map rgV),nilV])] []
 |x::X=>mkSt [(3, .box 3 0),(4, .box 4 0),(6, .box 6 0),(7,I 0),(10, .box 10 0),(68, .sl (s.defects.map shV)),(69,I s.defects.length),(70,I n)]
  [(3,aA7 s),(4,(bxV b).cells),(6,[I 0,S aI,S aI,I 0,nilV,nilV,nilV]),(10,[I id,S s.grade,S s.heat,I s.grain,rgV r.outer, .sl (r.holes.map rgV), .arr 93 X.length])] [(93,⟨X.length, .own,78,(x::X).map shV⟩)]
theorem cD5(s:jL)(b:Bx)(id:Int)(k:lK s):Sp 211 [zJ s,bxV b,I id] (.tup [zJ (remS s b id),I (remE s b id)]):=by
 refine zsp Tryz.func211 ?_;have h1:=nU s k;have u:=cV8 id
 have r:=bS8 b;have o:=mJ b.1
 have v:=mJ b.2;have z:=aJ0 b (0,0)
 have y:=aA6 s.shape (jT b (0,0)) k.1 (aD2 b (0,0));have H:=aJ0 b b.1
 by_cases c1:dB s;rotate_left
 ·have e1:remE s b id=1:=by unfold remE;rw[Q9 c1]
  have i:remS s b id=dN:=Bg;rw[e1,i];exact NW
 by_cases q:nC id/\xH b/\dQ b.1/\dQ b.2;rotate_left
 ·have e1:remE s b id=2:=by unfold remE;rw[Q5 (λh=>h c1),Q9 q]
  have i:remS s b id=dN:=Bg;rw[e1,i]
  repeat' ((conv=>whnf);first|(exfalso;contradiction)|(exfalso;exact q ⟨Ag,Ag,Ag,Ag⟩)|refine zc h1 ?_|refine zc u ?_|refine zc r ?_|refine zc o ?_|refine zc v ?_|refine zS ?_|refine zT ?_ ?_<;>intro _|fail)
  all_goals exact zE
 obtain⟨c21,c22,c23,c24⟩:=q;by_cases c3:lI s.shape (jT b (0,0));rotate_left
 ·have e1:remE s b id=13:=by unfold remE;rw[Q5 (λh=>h c1),Q5 (λh=>h ⟨c21,c22,c23,c24⟩),Q9 c3]
  have i:remS s b id=dN:=Bg;rw[e1,i]
  repeat' ((conv=>whnf);first|(exfalso;contradiction)|refine zc h1 ?_|refine zc u ?_|refine zc r ?_|refine zc o ?_|refine zc v ?_|refine zc z ?_|refine zc y ?_|refine zS ?_|refine zT ?_ ?_<;>intro _|fail)
  all_goals exact zE
 have e1:remE s b id=0:=BQ;have i:remS s b id=⟨id,s.grade,s.heat,s.grain,jT b b.1,kJ b s.defects⟩:=by unfold remS;rw[Q9 e1]
 rw[e1,i];have hl:(s.defects.map shV).length=s.defects.length:=Ae;generalize jT b b.1=c at*;generalize jT b (0,0)=K at*
 repeat' ((conv=>whnf);first|(exfalso;contradiction)|refine zc h1 ?_|refine zc u ?_|refine zc r ?_|refine zc o ?_|refine zc v ?_|refine zc z ?_|refine zc y ?_|refine zc H ?_|refine zS ?_|refine zT ?_ ?_<;>intro _|fail)
 all_goals conv=>whnf
 refine aU (A:=List Sh) (B:=List Sh) (λD R=>aB2 s b id c (kJ b D) D.length) (λD R=>s.defects=D++R) (λD R=>R.length) [] s.defects ?_ rfl (λD R hp=>?_)
 ·show Le T _ (aB2 s b id c [] 0)
  exact Nv
 have J:=yK b D;have G:=k.2.1
 cases R with
 |nil=>
  have e:s.defects=D:=Ad;have j:s.defects.length=D.length:=Il
  rw[e];generalize kJ b D=X at*
  cases X with
  |nil=>exact KT
  |cons x X=>exact KT
 |cons d R=>
  have j:=aO hp;have w:d∈s.defects:=Ad
  have m:=aS0 d (k.2.2 d w);have n:=cE9 (boxS d).1 b
  have E:=aJ0 (nV (boxS d).1 b) b.1;have a:=bX0 b D d
  have g:((D++[d]).length:Int)=(D.length:Int)+1:=Ae;have f:aK2 b d=(open Classical in if xH (nV (boxS d).1 b)then [jT (nV (boxS d).1 b) b.1]else []):=rfl
  generalize kJ b D=X at*;generalize nV (boxS d).1 b=C at*;generalize jT C b.1=rr at*;by_cases F:xH C
  ·rw[Q9 F]at f
   rw[f]at a
   cases X with
   |nil=>
    repeat' ((conv=>whnf);first|(exfalso;contradiction)|omega|refine aB (l:=s.defects) Aa ?_|refine aF (l:=s.defects) (A:=D) (x:=d) (B:=R) hp Aa ?_|refine zc m ?_|refine zc n ?_|refine zc E ?_|refine gX (QC rfl) (dA rfl) (QC rfl) ?_|refine zS ?_|refine zT ?_ ?_<;>intro _|fail)
    all_goals conv=>whnf
    refine⟨(D++[d],R),?_,Ad,Ae⟩;show Le T _ (aB2 s b id c (kJ b (D++[d])) (D++[d]).length);rw[a,g];show Le T _ (aB2 s b id c [rr] _);exact zj
   |cons x X=>
    have t:(x::X).length=X.length+1:=rfl
    repeat' ((conv=>whnf);first|(exfalso;contradiction)|omega|refine aB (l:=s.defects) Aa ?_|refine aF (l:=s.defects) (A:=D) (x:=d) (B:=R) hp Aa ?_|refine zc m ?_|refine zc n ?_|refine zc E ?_|refine iH rfl (.inl rfl) rfl (QC rfl) (dA rfl) (show((x::X).map shV).length+1<=1000000000 from DC) ?_|refine zS ?_|refine zT ?_ ?_<;>intro _|fail)
    all_goals conv=>whnf
    refine⟨(D++[d],R),?_,Ad,Ae⟩;show Le T _ (aB2 s b id c (kJ b (D++[d])) (D++[d]).length);rw[a,g];show Le T _ (aB2 s b id c (x::(X++[rr])) _);unfold aB2;exact Nj
  ·rw[Q5 F]at f
   rw[f,QU]at a
   cases X with
   |nil=>
    repeat' ((conv=>whnf);first|(exfalso;contradiction)|omega|refine aB (l:=s.defects) Aa ?_|refine aF (l:=s.defects) (A:=D) (x:=d) (B:=R) hp Aa ?_|refine zc m ?_|refine zc n ?_|refine zS ?_|refine zT ?_ ?_<;>intro _|fail)
    all_goals conv=>whnf
    refine⟨(D++[d],R),?_,Ad,Ae⟩;show Le T _ (aB2 s b id c (kJ b (D++[d])) (D++[d]).length);rw[a,g];show Le T _ (aB2 s b id c [] _);exact zj
   |cons x X=>
    have t:(x::X).length=X.length+1:=rfl
    repeat' ((conv=>whnf);first|(exfalso;contradiction)|omega|refine aB (l:=s.defects) Aa ?_|refine aF (l:=s.defects) (A:=D) (x:=d) (B:=R) hp Aa ?_|refine zc m ?_|refine zc n ?_|refine zS ?_|refine zT ?_ ?_<;>intro _|fail)
    all_goals conv=>whnf
    refine⟨(D++[d],R),?_,Ad,Ae⟩;show Le T _ (aB2 s b id c (kJ b (D++[d])) (D++[d]).length);rw[a,g];show Le T _ (aB2 s b id c (x::X) _);exact zj
def pJ(s:jL):Prop:=s.id=0/\s.grade=aI/\s.heat=aI/\s.grain=0/\s.shape.outer.length=0/\s.shape.holes.length=0/\s.defects.length=0
def yT(b:Bar):Prop:=b.id=0/\b.grade=aI/\b.heat=aI/\b.length=0/\b.defects.length=0
theorem cV3(b:Bar):Sp 113 [barV b] (DB (yT b)):=by
 refine zsp Tryz.func113 ?_;have a:yT b↔b.id=0/\b.grade=aI/\b.heat=aI/\b.length=0/\b.defects.length=0:=Rt;generalize yT b=P at*;have d:(b.defects.map ivV).length=b.defects.length:=Ae
 repeat' ((conv=>whnf);first|refine jI (λc=>?_) (λc=>?_)|refine zS ?_|refine zT ?_ ?_<;>intro _|fail)
 all_goals conv=>whnf
 all_goals first
  |exact aA (sK ⟨λh=>a.2 ⟨Aa,Ag,Ag,Aa,Aa⟩,λh=>by have:=(a.1 h).2.2.2.2;omega⟩)
  |exact aA (aC (λh=>by have:=(a.1 h);omega))
  |exact aA (aC (λh=>absurd (a.1 h).2.1 Ag))
  |exact aA (aC (λh=>absurd (a.1 h).2.2.1 Ag))
theorem aW0(n:Int):Sp 160 [I n] (DB (nC n)):=by
 refine zsp Tryz.func160 ?_;exact Oi
def fC6(b:Bool):Int:=if b then 1 else 0
theorem oL(b:Bool):Sp 125 [B b] (I (fC6 b)):=by
 refine zsp Tryz.func125 ?_;cases b
 ·exact zF
 ·exact zF
def sid(x:aN):Int:=if x.isBar then x.bar.id else x.sheet.id
theorem aE2(x:aN):Sp 68 [aQ x] (I (sid x)):=by
 refine zsp Tryz.func68 ?_;exact O9
def eY(x:aN):Prop:=lK x.sheet/\x.bar.defects.length<=1000000
def gG(x:aN):Int:=if x.isBar then x.bar.length else uK x.sheet.shape
theorem vF(x:aN)(a:eY x):Sp 36 [aQ x] (I (gG x)):=by
 refine zsp Tryz.func36 ?_;have c:=cG8 x.sheet.shape a.1.1;exact O9
end Go.Proofs.Led
