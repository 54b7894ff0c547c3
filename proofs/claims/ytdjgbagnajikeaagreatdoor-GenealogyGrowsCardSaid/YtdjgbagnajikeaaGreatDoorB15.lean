/-
  The reference's canonical shapes, walked.
-/
import Derived.Test.YtdjgbagnajikeaaGreatDoorB14
set_option linter.unusedVariables false
set_option linter.unusedSimpArgs false
set_option maxRecDepth 100000
set_option maxHeartbeats 8000000
noncomputable section
namespace Go.Proofs.Led
open Go Go.Proofs Go.Ab
theorem gH4{a:Type}(f:a->V)(O:List a)(k:Nat)(b:k<=O.length):(O.drop k++O.take k).map f=List.drop (k:Int).toNat (List.take ((O.map f).length:Int).toNat (O.map f))++List.take (k:Int).toNat (O.map f):=by
 grind [RP,Tn,List.map_take,List.map_drop]
theorem fM7(r:Rg)(y:r.length<=1000000)(n:r≠ []):Sp 313 [rgV r] (.own 97 ((wL r).map vcV)):=by
 refine zsp Tryz.func313 ?_;have u:(r.map vcV).length=r.length:=Ae;have c:0<r.length:=by cases r with|nil=>exact absurd rfl n|cons x l=>simp
 repeat' ((conv=>whnf);first|refine zS ?_|fail)
 refine aU (A:=Nat) (B:=Nat) (λi k=>mkSt [(0,rgV r),(3,I k),(4,I i)] [] []) (λi k=>i<=r.length/\k<r.length/\(k<i\/k=0)/\(∀j,j<i->¬kF (r.getD j z0) (r.getD k z0))/\∀j,j<k->r.getD j z0≠r.getD k z0) (λi k=>r.length-i) 0 0 ?_ ⟨Aa,c, .inr rfl,λj d=>Aa,λj d=>Aa⟩ (λi k s=>?_)
 ·exact zj
 obtain⟨hi,m,o,a,b⟩:=s;by_cases f:i<r.length
 ·have w:=fJ0 (r.getD i z0) (r.getD k z0)
  repeat' ((conv=>whnf);first|omega|refine aB (l:=r) Aa ?_|refine aU3 (k:=i) Aa f ?_|refine aU3 (k:=k) Aa m ?_|refine zc w ?_|refine zS ?_|refine zT ?_ ?_<;>intro _|fail)
  all_goals conv=>whnf
  ·have hv:kF (r.getD i z0) (r.getD k z0):=by assumption
   refine⟨(i+1,i),?_,⟨Aa,f, .inl Aa,λj d=>?_,λj d q=>?_⟩,Aa⟩
   ·exact zj
   ·by_cases e:j=i
    ·subst e;exact λq=>fJ8 q q
    ·exact λq=>a j Aa (fD9 q hv)
   ·exact a j d (by rw[q];exact hv)
  ·have hv:¬kF (r.getD i z0) (r.getD k z0):=by assumption
   refine⟨(i+1,k),?_,⟨Aa,m,Aa,λj d=>?_,b⟩,Aa⟩
   ·exact zj
   ·by_cases e:j=i
    ·subst e;exact hv
    ·exact a j Aa
 ·have g:i=r.length:=by omega
  subst g;have t:=(fJ7 ⟨m,a,b⟩).2;rw[t,gH4 vcV r k Aa];have v:(List.take (k:Int).toNat (r.map vcV)).length=k:=by rw[RP,QL];omega
  repeat' ((conv=>whnf);first|omega|refine cC0 [(0,999),(3,999)] Af Ac ?_|refine fU ⟨Aa,Aa,Aa, .inr (aM5 r)⟩ ?_|refine iH rfl (.inl rfl) rfl (QC rfl) (fW4 r _ _) (by show 0+(List.drop _ (List.take _ (r.map vcV))).length<=1000000000;rw[Rz,QL];omega) ?_|refine iH rfl (.inl rfl) rfl (QC rfl) (fQ7 r _) (by show(List.drop _ (List.take _ (r.map vcV))).length+(List.take _ (r.map vcV)).length<=1000000000;rw[Rz,QL,QL];omega) ?_|refine zS ?_|refine zT ?_ ?_<;>intro _|fail)
  all_goals conv=>whnf
  exact OU
def srtC(s:Sh)(X:List Rg):List V:=match X with
 | [] => [rgV (wL s.outer),nilV]
 |x::X=> [rgV (wL s.outer), .sl ((x::X).map rgV)]
def fQ8(s:Sh)(n:Nat)(X:List Rg):St:=mkSt [(1, .box 1 0),(2, .box 2 0),(3, .box 3 0),(4,I n)] [(1,(shV s).cells),(2,[nilV,nilV]),(3,srtC s X)] []
def gG4(s:Sh)(n:Nat)(X:List Rg)(h:Rg)(k:Nat):St:=mkSt [(1, .box 1 0),(2, .box 2 0),(3, .box 3 0),(4,I n),(5,rgV h),(6,I k)] [(1,(shV s).cells),(2,[nilV,nilV]),(3,srtC s X)] []
theorem gC2{s:Sh}{X:List Rg}(h:X≠ []):srtC s X=[rgV (wL s.outer), .sl (X.map rgV)] :=by
 cases X with
 |nil=>exact absurd rfl h
 |cons x X=>rfl
theorem fO4(l:List Rg)(n:Nat):∀y∈(l.map rgV).take n,y.cells.length=1:=λy a=>fM3 l y (Ri a)
theorem gE3(l:List Rg)(n m:Nat):∀y∈((l.map rgV).take m).drop n,y.cells.length=1:=λy a=>fM3 l y (Ri (Rj a))
theorem gF9(x:Rg)(l:List Rg):(insH x l).length=l.length+1:=by
 unfold insH;grind
theorem gF7(l:List Rg):(srtH l).length=l.length:=by
 have key:∀(l o:List Rg),(l.foldl (λo x=>insH x o) o).length=o.length+l.length:=by
  intro l
  induction l<;>grind [gF9,QM]
 have:=key l [];simpa [srtH]using this
theorem fU2(x:Rg)(l:List Rg):fA x l<=l.length:=by
 grind [List.takeWhile_sublist,fA]
theorem gD7{x:Rg}{l:List Rg}{i:Nat}(hi:i<fA x l)(h:i<l.length):kF (keyR l[i]) (keyR x):=by
 obtain⟨c,b⟩:=fM8 (λy=>decB (kF (keyR y) (keyR x))) l
 have a:l[i]∈l.takeWhile (λy=>decB (kF (keyR y) (keyR x))):=by
  grind [List.mem_iff_getElem,QL,fA]
 grind [dH,fU7]
theorem gD5{x:Rg}{l:List Rg}{y:Rg}(h:l[fA x l]? =some y):¬kF (keyR y) (keyR x):=by
 obtain⟨b,a⟩:=fM8 (λy=>decB (kF (keyR y) (keyR x))) l;have:=a y (by rw[RI,Tq];exact h)
 exact dW.1 this
theorem gG7{z:Rg}:∀ {l:List Rg},z∈srtH l->z∈l:=by
 have key:∀(l o:List Rg),z∈l.foldl (λo x=>insH x o) o->z∈o\/z∈l:=by
  intro l
  induction l<;>grind [fW9]
 intro l h;rcases key l [] h with h|h
 ·cases h
 ·exact h
theorem fS7{r:Rg}:(wL r).length=r.length:=by
 by_cases h:r=[]
 ·subst h;rfl
 ·obtain⟨k,a⟩:=fY4 h
  rw[(fJ7 a).2,QG,Rz,QL];have:=a.1;omega
theorem fQ5(s:Sh)(F:gV s)(h6:s.holes.length<=1000)(c:∀r∈rings s,r≠ []):Sp 269 [shV s] (shV (fP2 s)):=by
 refine zsp Tryz.func269 ?_;have W:(s.holes.map rgV).length=s.holes.length:=Ae;have g0:=fM7 s.outer F.1 (c _ AQ)
 have hX:fP2 s=⟨wL s.outer,srtH (s.holes.map wL)⟩:=rfl
 repeat' ((conv=>whnf);first|refine zc g0 ?_|refine zS ?_|fail)
 refine aU (A:=List Rg) (B:=List Rg) (λD R=>fQ8 s D.length (srtH (D.map wL))) (λD R=>s.holes=D++R) (λD R=>R.length) [] s.holes ?_ rfl (λD R hp=>?_)
 ·show Le T _ (fQ8 s 0 [])
  refine Le.trans (fB (k:=9) rfl (.inl rfl)) ?_;exact zj
 cases R with
 |nil=>
  have f:s.holes.length=D.length:=Dq;have e:s.holes=D:=Dq
  rw[hX,e];generalize srtH (D.map wL)=X at*
  cases X with
  |nil=>exact Jp
  |cons x X=>exact Jp
 |cons h R=>
  have f:=aO hp;have o:h∈s.holes:=Ad
  have g:h≠ [] :=c h (by unfold rings;simp[o])
  have G:=fM7 h (F.2.2 h o) g;have w:=gF7 (D.map wL)
  rw[QS]at w;have hsn:srtH ((D++[h]).map wL)=insH (wL h) (srtH (D.map wL)):=by rw[Rl,QW,RY,fK1]
  have m:∀x∈srtH (D.map wL),0<x.length:=λx O=>by
   obtain⟨r,N,rfl⟩:=QZ.1 (gG7 O);have:r≠ [] :=c r (by unfold rings;rw[hp];simp[N])
   rw[fS7]
   cases r with
   |nil=>exact absurd rfl this
   |cons a l=>simp
  have z:0< (wL h).length:=by
   rw[fS7]
   cases h with
   |nil=>exact absurd rfl g
   |cons a l=>simp
  generalize wL h=x at*;generalize srtH (D.map wL)=X at*
  have d:∀k,k<=fA x X->(X.length<=k\/¬kF ((X.getD k []).getD 0 z0) (x.getD 0 z0))->k=fA x X:=λk b i=>by
   rcases Ry k (fA x X)with hlt|E
   ·have v:=fU2 x X
    have:=gD7 hlt Aa;rcases i with i|i
    ·omega
    ·have e:X.getD k [] =X[k] :=by rw[RJ,QE (show k<X.length from Aa)];rfl
     rw[e]at i;exact absurd this i
   ·omega
  have C:∀k,k<=fA x X->k<X.length->kF ((X.getD k []).getD 0 z0) (x.getD 0 z0)->k<fA x X:=λk b M hv=>by
   rcases Ry k (fA x X)with hlt|E
   ·exact hlt
   ·have e:k=fA x X:=by omega
    have J:X[fA x X]? =some (X.getD k []):=by rw[<-e,RJ,QE M];rfl
    exact absurd hv (gD5 J)
  have hins:∀k,k=fA x X->insH x X=X.take k++x::X.drop k:=λk b=>by rw[b];rfl
  have H:(X.map rgV).length=X.length:=Ae;have v:=fU2 x X
  cases X with
  |nil=>
   have h0:([] :List Rg).length=0:=rfl
   repeat' ((conv=>whnf);first|omega|refine aB (l:=s.holes) Aa ?_|refine aF (l:=s.holes) (A:=D) (x:=h) (B:=R) hp Aa ?_|refine zc G ?_|refine zS ?_|refine zl (λhlt=>?_) (λhlt=>?_))
   refine lD (A:=Nat) (λk=>gG4 s D.length [] x k) (λk=>k<=fA x []) (λk=>fA x []-k) 0 ?_ Aa (λk b=>?_)
   ·refine Le.trans (fB (k:=23) rfl (.inl rfl)) ?_
    show Le T _ (mkSt [(1, .box 1 0),(2, .box 2 0),(3, .box 3 0),(4,I D.length),(5,rgV x),(6,I 0)] [(1,(shV s).cells),(2,[nilV,nilV]),(3,[rgV (wL s.outer),nilV])] []);exact zj
   have u:k=0:=by have:fA x [] =0:=rfl;omega
   subst u;have hi:insH x [] =[x] :=rfl
   repeat' ((conv=>whnf);first|omega|refine cC0 [(3,3),(45,3),(53,3),(58,3)] Af Ac ?_|refine iH rfl (.inl rfl) rfl (QC rfl) (λy t=>by cases t) (show 0+0<=1000000000 from Aa) ?_|refine iH rfl (.inl rfl) rfl (QC rfl) (dA rfl) (show 0+1<=1000000000 from Aa) ?_|refine iH rfl (.inl rfl) rfl (QC rfl) (λy t=>by cases t) (show 1+0<=1000000000 from Aa) ?_|refine fU ⟨Aa,Aa,Aa, .inl rfl⟩ ?_|refine zS ?_|refine zl (λhlt=>?_) (λhlt=>?_))
   all_goals conv=>whnf
   refine⟨(D++[h],R),?_,Ad,Ae⟩;show Le T _ (fQ8 s (D++[h]).length (srtH ((D++[h]).map wL)));rw[hsn,hi,QG,QK];refine Le.trans (fB (k:=44) rfl (.inl rfl)) ?_;show Le T _ (mkSt [(1, .box 1 0),(2, .box 2 0),(3, .box 3 0),(4,I ((D.length:Int)+1))] [(1,(shV s).cells),(2,[nilV,nilV]),(3,[rgV (wL s.outer), .sl [rgV x]])] []);exact zj
  |cons y Y=>
   have hY:(y::Y).length=Y.length+1:=rfl
   repeat' ((conv=>whnf);first|omega|refine aB (l:=s.holes) Aa ?_|refine aF (l:=s.holes) (A:=D) (x:=h) (B:=R) hp Aa ?_|refine zc G ?_|refine zS ?_|refine zl (λhlt=>?_) (λhlt=>?_))
   refine lD (A:=Nat) (λk=>gG4 s D.length (y::Y) x k) (λk=>k<=fA x (y::Y)) (λk=>fA x (y::Y)-k) 0 ?_ Aa (λk b=>?_)
   ·refine Le.trans (fB (k:=23) rfl (.inl rfl)) ?_
    show Le T _ (mkSt [(1, .box 1 0),(2, .box 2 0),(3, .box 3 0),(4,I D.length),(5,rgV x),(6,I 0)] [(1,(shV s).cells),(2,[nilV,nilV]),(3,[rgV (wL s.outer), .sl ((y::Y).map rgV)])] []);exact zj
   have L:=fJ0 (((y::Y).getD k []).getD 0 z0) (x.getD 0 z0);have j:=d k b
   have P:=C k b;have n:k< (y::Y).length->0< ((y::Y).getD k []).length:=λq=>m _ (getD_mem q)
   have K:∀U∈(List.map rgV (y::Y)).take k,U.cells.length=1:=fO4 (y::Y) k;have Z:(x.map vcV).length=x.length:=Ae
   have Q:((y::Y).map rgV).length=Y.length+1:=Ae;have aa:(((y::Y).getD k []).map vcV).length=((y::Y).getD k []).length:=Ae
   repeat' ((conv=>whnf);first|refine cC0 [(3,3),(45,3),(53,3),(58,3)] Af Ac ?_|refine aB (l:=x) Aa ?_|refine aB (l:=(y::Y).getD k []) (by have:=n Aa;omega) ?_|refine aB (l:=y::Y) Aa ?_|refine eG2 (l:=y::Y) (k:=k) Aa Aa ?_|refine aU3 (r:=x) (k:=0) rfl z ?_|refine aU3 (r:=(y::Y).getD k []) (k:=0) rfl (n Aa) ?_|refine zc L ?_|refine iH rfl (.inl rfl) rfl (QC rfl) (fO4 (y::Y) _) (by show 0+(List.take _ ((y::Y).map rgV)).length<=1000000000;rw[QL];omega) ?_|refine iH rfl (.inl rfl) rfl (QC rfl) (dA rfl) (by show(List.take _ ((y::Y).map rgV)).length+1<=1000000000;rw[QL];omega) ?_|refine iH rfl (.inl rfl) rfl (QC rfl) (gE3 (y::Y) _ _) (by show(List.take _ ((y::Y).map rgV)++[_]).length+(List.drop _ (List.take _ ((y::Y).map rgV))).length<=1000000000;rw[QG,QL,QK,Rz,QL];omega) ?_|refine fU ⟨Aa,Aa,Aa, .inr (fM3 (y::Y))⟩ ?_|refine zS ?_|refine zd (λS=>?_) (λS=>?_)|refine zl (λhlt=>?_) (λhlt=>?_))
   all_goals conv=>whnf
   ·have hv:kF (((y::Y).getD k []).getD 0 z0) (x.getD 0 z0):=by assumption
    have:=P Aa hv;refine⟨k+1,?_,Aa,Aa⟩;show Le T _ (mkSt [(1, .box 1 0),(2, .box 2 0),(3, .box 3 0),(4,I D.length),(5,rgV x),(6,I ((k:Int)+1))] [(1,(shV s).cells),(2,[nilV,nilV]),(3,[rgV (wL s.outer), .sl ((y::Y).map rgV)])] []);exact zj
   ·have hk':=j (.inr Ag)
    exact NQ
   ·have hk':=j (.inl Aa)
    exact NQ
theorem fM2(s:Sh)(b:gV s):Sp 220 [shV s] (shV (qO s)):=by
 refine zsp Tryz.func220 ?_;have g0:=aD7 s b;by_cases h:bG s;rotate_left
 ·rw[dbF h]at g0
  rw[bH5 h];exact O3
 rw[dbT h]at g0;have a:∀r∈rings s,r≠ [] :=λr d e=>by have:=(h.2.1 r d).1;rw[e]at this;simp at this
 have g1:=fQ5 s b (by have:=h.1;omega) a
 rw[fV8 h]at g1;generalize qO s=c at*;exact Oo
theorem fZ5(a b:Rg)(j:a.length<=1000000)(i:b.length<=1000000):Sp 312 [rgV a,rgV b] (DB (a=b)):=by
 refine zsp Tryz.func312 ?_;have f:(a.map vcV).length=a.length:=Ae;have g:(b.map vcV).length=b.length:=Ae
 generalize hP:(a=b)=P;have hr:P↔a=b:=GI;clear hP
 repeat' ((conv=>whnf);first|refine zS ?_|refine zT ?_ ?_<;>intro _|fail)
 all_goals conv=>whnf
 all_goals first
  |exact aA (aC (λh=>by have:=Rh List.length (hr.1 h);omega))
  |skip
 refine oU (A:=List Vc) (B:=List Vc) (C:=List Vc) (λD R S=>mkSt [(0,rgV a),(1,rgV b),(5,I D.length)] [] []) (λD R S=>a=D++R/\b=D++S) (λD R S=>R.length) [] a b ?_ ⟨rfl,rfl⟩ (λD R S hp=>?_)
 ·exact zj
 obtain⟨hp,hq⟩:=hp
 cases R with
 |nil=>exact I7
 |cons x R=>
  cases S with
  |nil=>exact J8
  |cons y S=>
   have hlen:=aO hp;have d:=aO hq
   have e:x≠y->¬P:=λh hP=>IX
   repeat' ((conv=>whnf);first|omega|refine aB (l:=a) Aa ?_|refine aB (l:=b) Aa ?_|refine aF (l:=a) (A:=D) (x:=x) (B:=R) hp Aa ?_|refine aF (l:=b) (A:=D) (x:=y) (B:=S) hq Aa ?_|refine aT1 ?_|refine aB4 (λc=>?_) (λc=>?_)|refine zS ?_|refine zT ?_ ?_<;>intro _|fail)
   all_goals conv=>whnf
   all_goals first
    |exact aA (aC (e AV))
    |skip
   exact N7
theorem fW7(a b:Rg)(d:a.length<=1000000)(c:b.length<=1000000):Sp 268 [rgV a,rgV b] (DB (a=b)):=by
 refine zsp Tryz.func268 ?_;have e:=fZ5 a b d c;generalize (a=b)=P at*
 repeat' ((conv=>whnf);first|refine zc e ?_|refine zS ?_|fail)
 all_goals conv=>whnf
 exact aA rfl
theorem fV6(a b:Sh)(n:gV a)(s:gV b):Sp 219 [shV a,shV b] (DB (a=b)):=by
 refine zsp Tryz.func219 ?_;have z:=fE1 a n;have J:=fE1 b s
 have m:∀r∈rings a,r.length<=1000000:=λr hr=>n.mem hr;have t:∀r∈rings b,r.length<=1000000:=λr hr=>s.mem hr
 have w:(rings a).length<=1000001:=by have:=n.2.1;unfold rings;simp;omega
 have v:(rings b).length<=1000001:=by have:=s.2.1;unfold rings;simp;omega
 have hr:(a=b)↔rings a=rings b:=gE1.symm;generalize (a=b)=P at*;generalize rings a=A at*;generalize rings b=B at*;have H:(A.map rgV).length=A.length:=Ae
 have K:(B.map rgV).length=B.length:=Ae
 repeat' ((conv=>whnf);first|refine zc z ?_|refine zc J ?_|refine zS ?_|refine ze (λc=>?_) (λc=>?_))
 ·have E:A.length=B.length:=by
   have q:((A.map rgV).length:Int)=((B.map rgV).length:Int):=c;omega
  clear c;refine oU (A:=List Rg) (B:=List Rg) (C:=List Rg) (λD R S=>mkSt [(5, .sl (A.map rgV)),(6, .sl (B.map rgV)),(7,I D.length)] [] []) (λD R S=>A=D++R/\B=D++S) (λD R S=>R.length) [] A B ?_ ⟨rfl,rfl⟩ (λD R S hp=>?_)
  ·refine Le.trans (Le.trans (fB (k:=9) rfl (.inl rfl)) (fB (k:=11) rfl (.inl rfl))) ?_
   exact zj
  obtain⟨hp,hq⟩:=hp
  cases R with
  |nil=>
   have f:A.length=D.length:=Ad
   have u:S=[] :=by
    have h1:B.length=D.length+S.length:=Ap;exact Rn.1 Aa
   subst u;have o:P:=hr.2 Hw;clear hp hq hr
   repeat' ((conv=>whnf);first|omega|refine zS ?_|refine zl (λd=>?_) (λd=>?_))
   all_goals conv=>whnf
   exact aA (fE o)
  |cons x R=>
   cases S with
   |nil=>
    have h1:B.length=D.length:=Ap;have L:=aO hp
    exfalso;omega
   |cons y S=>
    have f:=aO hp;have g:=aO hq
    have i:¬x=y->¬P:=λh hP=>IX;have F:=fW7 x y (m x Ad) (t y Ap)
    have j:x=y->B=D++[x] ++S:=λh=>by rw[hq,h];simp
    generalize (x=y)=e at*
    repeat' ((conv=>whnf);first|omega|refine aB (l:=A) Aa ?_|refine aB (l:=B) Aa ?_|refine aF (l:=A) (A:=D) (x:=x) (B:=R) hp Aa ?_|refine aF (l:=B) (A:=D) (x:=y) (B:=S) hq Aa ?_|refine zc F ?_|refine zS ?_|refine zd (λG=>?_) (λG=>?_)|refine zl (λd=>?_) (λd=>?_))
    all_goals conv=>whnf
    all_goals first
     |exact aA (aC (i Ag))
     |skip
    refine⟨(D++[x],R,S),?_,⟨Ad,j Ag⟩,Ae⟩;exact MQ
 ·all_goals conv=>whnf
  refine aA (aC (λh=>c ?_));show((A.map rgV).length:Int)=((B.map rgV).length:Int);rw[hr.1 h]
theorem fH3(lo hi:Vc):Sp 228 [vcV lo,vcV hi] (shV (sV lo hi)):=by
 refine zsp Tryz.func228 ?_;have d:=fP lo 2000;have c:=fP hi 2000
 have a:=eS0 (lo:=lo) (hi:=hi);have b:=eR9 (lo:=lo) (hi:=hi)
 generalize sV lo hi=A at*;generalize within lo 2000=e at*;generalize within hi 2000=f at*
 repeat' ((conv=>whnf);first|refine zc d ?_|refine zc c ?_|refine zS ?_|refine zT ?_ ?_<;>intro _|fail)
 all_goals conv=>whnf
 all_goals first
  |(rw[a BG];refine⟨?_,rfl,λrs h=>V.noConfusion h⟩;(repeat' (first|exact trivial|refine And.intro ?_ ?_|with_reducible rfl|exact(λh=>Ah)|exact rfl));done)
  |(rw[b (by rintro(q|q|q|q)<;>first|omega|contradiction)];refine⟨?_,rfl,λrs h=>V.noConfusion h⟩;(repeat' (first|exact trivial|refine And.intro ?_ ?_|with_reducible rfl|exact(λh=>Ah)|exact rfl));done)
theorem fV1(l:List Vc)(f:l.length<=1000000):Sp 324 [.sl (l.map vcV)] (.tup [bxV (aC7 l).1, .lit (.bool (aC7 l).2)]):=by
 refine zsp Tryz.func324 ?_;have d:(l.map vcV).length=l.length:=Ae
 cases a:l with
 |nil=>exact KH
 |cons x r=>
  rw[<-a];have c:l.length=r.length+1:=by rw[a];rfl
  have hb:aC7 l=(l.foldl gU (x,x),true):=by rw[a];rfl
  repeat' ((conv=>whnf);first|omega|refine cC0 [(0,999),(10,999),(11,999),(13,999),(14,999),(4,4)] Af Ac ?_|refine aB (l:=l) Aa ?_|refine aF (l:=l) (A:=[]) (x:=x) (B:=r) a rfl ?_|refine zS ?_|refine ze (λheq=>?_) (λheq=>?_))
  refine aU (A:=List Vc) (B:=List Vc) (λD R=>mkSt [(0, .sl (l.map vcV)),(2, .box 2 0),(4, .box 4 0),(5,I D.length)] [(2,[I 0,I 0,I 0,I 0]),(4,(bxV (D.foldl gU (x,x))).cells)] [])
   (λD R=>l=D++R) (λD R=>R.length) [] l ?_ rfl (λD R hp=>?_)
  ·exact zj
  cases R with
  |nil=>exact Jw
  |cons y R=>
   have hlen':=aO hp;have es:(D++[y]).foldl gU (x,x)=gU (D.foldl gU (x,x)) y:=Gz
   have eD:(D++[y]).length=D.length+1:=Ae;generalize D.foldl gU (x,x)=b at*
   repeat' ((conv=>whnf);first|omega|refine cC0 [(0,999),(5,999),(4,4),(23,4),(24,4),(32,4),(33,4),(42,4),(26,999),(27,999),(28,999),(29,999),(35,999),(36,999),(37,999),(38,999)] Af Ac ?_|refine aB (l:=l) Aa ?_|refine aF (l:=l) (A:=D) (x:=y) (B:=R) hp Aa ?_|refine zS ?_|refine zl (λhlt=>?_) (λhlt=>?_))
   all_goals conv=>whnf
   exact OO
theorem gB4(r:Rg)(a:r.length<=1000000):Sp 282 [rgV r] (.tup [bxV (boxR r).1, .lit (.bool (boxR r).2)]):=by
 refine zsp Tryz.func282 ?_;have g0:=fE9 r a;have g1:=fV1 r a
 by_cases h:dM r
 ·have e:boxR r=aC7 r:=Q9 h
  rw[dbT h]at g0;rw[e];generalize aC7 r=b at*;exact Oo
 ·have e:boxR r=(((0,0),(0,0)),false):=Q5 h
  rw[dbF h]at g0;rw[e];exact O3
theorem fX2(s:Sh)(a:gV s):Sp 230 [shV s] (.tup [bxV (boxS s).1, .lit (.bool (boxS s).2)]):=by
 refine zsp Tryz.func230 ?_;have g0:=aD7 s a;have g1:=gB4 s.outer a.1
 by_cases h:bG s
 ·rw[eG7 h]
  rw[dbT h]at g0;generalize boxR s.outer=b at*;exact Oo
 ·rw[eW5 h]
  rw[dbF h]at g0;exact O3
theorem fF5(p:Vc):Sp 179 [vcV p] (DB (dQ p)):=by
 refine zsp Tryz.func179 ?_;have a:dQ p↔0<=p.1/\0<=p.2/\p.1<=1900/\p.2<=1900:=by unfold dQ;omega
 generalize dQ p=P at*
 repeat' ((conv=>whnf);first|refine zS ?_|refine zT ?_ ?_<;>intro _|fail)
 all_goals conv=>whnf
 all_goals refine aA ?_
 all_goals first
  |(refine le_dec ?_;rw[a];omega)
  |exact aC (λh=>by have:=a.1 h;omega)
theorem fE6(s:Sh)(b:gV s):Sp 178 [shV s] (DB (jV s)):=by
 refine zsp Tryz.func178 ?_;have a:jV s↔bG s/\qO s=s:=⟨λh=>⟨h.1,h.2.symm⟩,λh=>⟨h.1,h.2.symm⟩⟩;have g:=aD7 s b
 have f:=fM2 s b
 have d:gV (qO s):=by
  by_cases h:bG s
  ·exact aU5 h
  ·rw[bH5 h]
   exact⟨Ih,Ih,λr a=>by simp[sh0]at a⟩
 have e:=fV6 (qO s) s d b;generalize jV s=P at*;generalize (qO s=s)=j at*;generalize qO s=c at*;generalize bG s=i at*
 repeat' ((conv=>whnf);first|refine zc g ?_|refine zc f ?_|refine zc e ?_|refine zS ?_|refine zT ?_ ?_<;>intro _|fail)
 all_goals conv=>whnf
 all_goals first
  |exact aA (fQ ⟨λh=>a.2 ⟨Ag,h⟩,λh=>(a.1 h).2⟩)
  |exact aA (aC (λh=>absurd (a.1 h).1 Ag))
theorem gA2(l:List Sg):∀y∈l.map sgV,y.cells.length=4:=λy hy=>AX
def redSt(rs:List Rg)(D:List Rg):St:=match D with
 | [] =>mkSt [(3,nilV),(4, .sl (rs.map rgV)),(5,I 0)] [] [(7,⟨0, .frz,75,rs.map rgV⟩)]
 |d::D=>mkSt [(3, .arr 20 D.length),(4, .sl (rs.map rgV)),(5,I ((D.length:Int)+1))] [] [(7,⟨0, .frz,75,rs.map rgV⟩),(20,⟨D.length, .own,270,((d::D).flatMap bF).map sgV⟩)]
theorem gG9{r:Rg}(h:r.length<=1000000):(bF r).length<=1000000:=Fz
theorem fK8(s:Sh)(c:gV s)(i:s.holes.length<=6):Sp 315 [shV s] (.own 270 ((aC0 s).map sgV)):=by
 refine zsp Tryz.func315 ?_;have j:=fE1 s c;have b:∀r∈rings s,r.length<=1000000:=λr v=>c.mem v
 have f:∀ {D R:List Rg},rings s=D++R->(D.flatMap bF).length<=7000000:=λh=>bC1 c i h;have t:aC0 s=(rings s).flatMap bF:=rfl
 have hne:rings s≠ [] :=AQ;have u:(rings s).length<=7:=Fe
 rw[t];generalize rings s=A at*;have o:(A.map rgV).length=A.length:=Ae
 repeat' ((conv=>whnf);first|refine zc j ?_|refine zS ?_|fail)
 refine aU (A:=List Rg) (B:=List Rg) (λD R=>redSt A D) (λD R=>A=D++R) (λD R=>R.length) [] A ?_ rfl (λD R hp=>?_)
 ·exact Kt
 have hp:A=D++R:=hp
 cases R with
 |nil=>exact Jk
 |cons r R=>
  have hlen:=aO hp;have a:=b r Ad
  have g:=fE7 r a;have n:=f (D:=D) (R:=r::R) hp
  have q:=gG9 a
  cases D with
  |nil=>
   have m:([] :List Rg).length=0:=rfl
   repeat' ((conv=>whnf);first|omega|refine aB (l:=A) Aa ?_|refine aF (l:=A) (A:=[]) (x:=r) (B:=R) hp Aa ?_|refine zc g ?_|refine gX (QC rfl) (gA2 (bF r)) (by show((bF r).map sgV).length<=1000000000;rw[QS];omega) ?_|refine zS ?_|refine zT ?_ ?_<;>intro _|fail)
   all_goals conv=>whnf
   refine⟨([r],R),?_,hp,Ae⟩;show Le T _ (mkSt [(3, .arr 20 0),(4, .sl (A.map rgV)),(5,I (0+1))] [] [(7,⟨0, .frz,75,A.map rgV⟩),(20,⟨0, .own,270,([r].flatMap bF).map sgV⟩)]);rw[show [r].flatMap bF=bF r from Ae];exact zj
  |cons d D=>
   have m:(d::D).length=D.length+1:=rfl
   repeat' ((conv=>whnf);first|omega|refine aB (l:=A) Aa ?_|refine aF (l:=A) (A:=d::D) (x:=r) (B:=R) hp Aa ?_|refine zc g ?_|refine iH rfl (.inl rfl) rfl (QC rfl) (gA2 (bF r)) (by show(((d::D).flatMap bF).map sgV).length+((bF r).map sgV).length<=1000000000;rw[QS,QS];omega) ?_|refine zS ?_|refine zT ?_ ?_<;>intro _|fail)
   all_goals conv=>whnf
   refine⟨(d::(D++[r]),R),?_,Ad,Ae⟩;show Le T _ (mkSt [(3, .arr 20 (D++[r]).length),(4, .sl (A.map rgV)),(5,I (((D++[r]).length:Int)+1))] [] [(7,⟨0, .frz,75,A.map rgV⟩),(20,⟨(D++[r]).length, .own,270,((d::(D++[r])).flatMap bF).map sgV⟩)]);rw[show((d::(D++[r])).flatMap bF).map sgV=((d::D).flatMap bF).map sgV++(bF r).map sgV from Ae,QG,QK];exact zj
def rveSt(rs:List Rg)(D:List Rg):St:=match D with
 | [] =>mkSt [(3,nilV),(4, .sl (rs.map rgV)),(5,I 0)] [] [(7,⟨0, .frz,75,rs.map rgV⟩)]
 |d::D=>mkSt [(3, .arr 19 D.length),(4, .sl (rs.map rgV)),(5,I ((D.length:Int)+1))] [] [(7,⟨0, .frz,75,rs.map rgV⟩),(19,⟨D.length, .own,97,((d::D).flatten).map vcV⟩)]
theorem gC0:∀ {E:List Rg},(∀r∈E,r.length<=1000000)->E.flatten.length<=1000000*E.length
 | [],_=>Ae
 |e::E,h=>by
  have c:=h e Ae;have b:=gC0 (E:=E) (λr a=>h r (by simp[a]))
  grind
theorem fG7(s:Sh)(b:gV s)(u:s.holes.length<=6):Sp 272 [shV s] (.own 97 ((rV s).map vcV)):=by
 refine zsp Tryz.func272 ?_;have c:=fE1 s b;have a:∀r∈rings s,r.length<=1000000:=λr t=>b.mem t
 have n:rV s=(rings s).flatten:=rfl;have hne:rings s≠ [] :=AQ
 have m:(rings s).length<=7:=Fe;rw[n];generalize rings s=A at*;have j:(A.map rgV).length=A.length:=Ae
 repeat' ((conv=>whnf);first|refine zc c ?_|refine zS ?_|fail)
 refine aU (A:=List Rg) (B:=List Rg) (λD R=>rveSt A D) (λD R=>A=D++R) (λD R=>R.length) [] A ?_ rfl (λD R hp=>?_)
 ·exact Kt
 have hp:A=D++R:=hp
 cases R with
 |nil=>exact Jk
 |cons r R=>
  have hlen:=aO hp;have o:=a r Ad
  have i:=gC0 (E:=D) (λx f=>a x (by rw[hp];simp[f]))
  have q:(r.map vcV).length=r.length:=Ae
  cases D with
  |nil=>
   have g:([] :List Rg).length=0:=rfl
   repeat' ((conv=>whnf);first|omega|refine aB (l:=A) Aa ?_|refine aF (l:=A) (A:=[]) (x:=r) (B:=R) hp Aa ?_|refine gX (QC rfl) (aM5 r) (by show(r.map vcV).length<=1000000000;omega) ?_|refine zS ?_|refine zT ?_ ?_<;>intro _|fail)
   all_goals conv=>whnf
   refine⟨([r],R),?_,hp,Ae⟩;show Le T _ (mkSt [(3, .arr 19 0),(4, .sl (A.map rgV)),(5,I (0+1))] [] [(7,⟨0, .frz,75,A.map rgV⟩),(19,⟨0, .own,97,([r].flatten).map vcV⟩)]);rw[show [r].flatten=r from Ae];exact zj
  |cons d D=>
   have g:(d::D).length=D.length+1:=rfl
   repeat' ((conv=>whnf);first|omega|refine aB (l:=A) Aa ?_|refine aF (l:=A) (A:=d::D) (x:=r) (B:=R) hp Aa ?_|refine iH rfl (.inl rfl) rfl (QC rfl) (aM5 r) (by show(((d::D).flatten).map vcV).length+(r.map vcV).length<=1000000000;rw[QS];omega) ?_|refine zS ?_|refine zT ?_ ?_<;>intro _|fail)
   all_goals conv=>whnf
   refine⟨(d::(D++[r]),R),?_,Ad,Ae⟩;show Le T _ (mkSt [(3, .arr 19 (D++[r]).length),(4, .sl (A.map rgV)),(5,I (((D++[r]).length:Int)+1))] [] [(7,⟨0, .frz,75,A.map rgV⟩),(19,⟨(D++[r]).length, .own,97,((d::(D++[r])).flatten).map vcV⟩)]);rw[show((d::(D++[r])).flatten).map vcV=((d::D).flatten).map vcV++r.map vcV from Ae,QG,QK];exact zj
theorem fT8{s:Sh}(h:bG s):∀e∈aC0 s,bI e:=λe a=>by
 unfold aC0 at a;obtain⟨r,b,q⟩:=List.mem_flatMap.1 a;exact jO (h.2.1 r b).2.2.1 q
theorem fI8{s:Sh}(h:bG s):∀v∈rV s,Sm4 v:=λv hv=>by
 unfold rV at hv;obtain⟨r,a,q⟩:=List.mem_flatten.1 hv;exact vN (h.2.1 r a).2.2.1 q
theorem fP1(a b:Sh)(e:bG a)(d:bG b):Sp 270 [shV a,shV b] (DB (rJ a b [2])):=by
 refine zsp Tryz.func270 ?_;have i:=fK8 a (iT e) e.1;have g:=fK8 b (iT d) d.1
 have n:=fT8 e;have r:=fT8 d
 have u:=bV2 (iT e) e.1;have t:=bV2 (iT d) d.1
 have hr:rJ a b [2]↔∃x∈aC0 a,∃y∈aC0 b,dG x y=2:=by unfold rJ;simp only[QI]
 generalize rJ a b [2] =P at*;generalize aC0 a=A at*;generalize aC0 b=B at*;have o:(A.map sgV).length=A.length:=Ae;have s:(B.map sgV).length=B.length:=Ae
 repeat' ((conv=>whnf);first|refine zc i ?_|refine zc g ?_|refine zS ?_|fail)
 refine aU (A:=List Sg) (B:=List Sg) (λD R=>mkSt [(5, .sl (A.map sgV)),(6, .sl (B.map sgV)),(7,I D.length)] [] []) (λD R=>A=D++R/\∀x∈D,∀y∈B,dG x y≠2) (λD R=>R.length) [] A ?_ ⟨rfl,Ae⟩ (λD R hp=>?_)
 ·exact Ll
 obtain⟨hp,hD⟩:=hp
 cases R with
 |nil=>exact J9
 |cons x R=>
  have hlen:=aO hp;have q:=n x Ad
  repeat' ((conv=>whnf);first|omega|refine zS ?_|refine zT ?_ ?_<;>intro _|fail)
  refine aU (A:=List Sg) (B:=List Sg) (λE S=>mkSt [(5, .sl (A.map sgV)),(6, .sl (B.map sgV)),(7,I D.length),(8,I E.length)] [] []) (λE S=>B=E++S/\∀y∈E,dG x y≠2) (λE S=>S.length) [] B ?_ ⟨rfl,Ae⟩ (λE S hq=>?_)
  ·exact zj
  obtain⟨hq,hE⟩:=hq
  cases S with
  |nil=>exact MN
  |cons y S=>
   have hlen2:=aO hq;have j:=fI7 x y q (r y Ap)
   have f:dG x y=2->P:=λh=>hr.2 ⟨x,Ad,y,Ap,h⟩;have c:dG x y≠2->∀z∈E++[y],dG x z≠2:=λh z hz=>Lr
   generalize dG x y=m at*
   repeat' ((conv=>whnf);first|omega|refine aB (l:=A) Aa ?_|refine aB (l:=B) Aa ?_|refine aF (l:=A) (A:=D) (x:=x) (B:=R) hp Aa ?_|refine aF (l:=B) (A:=E) (x:=y) (B:=S) hq Aa ?_|refine zc j ?_|refine zS ?_|refine zT ?_ ?_<;>intro _|fail)
   all_goals conv=>whnf
   all_goals first
    |exact aA (fE (f Ag))
    |skip
   refine⟨(E++[y],S),?_,⟨Ap,c Ag⟩,Ae⟩;exact MQ
theorem gA9{r:Rg}(b:3<=r.length){k:Nat}(a:k<r.length):(bF r).drop k=aJ4 r k::(bF r).drop (k+1):=by
 have c:=dT0 (r:=r) Aa;rw[List.drop_eq_getElem_cons Aa];congr 1;have:=fH0 b a
 simp_all
theorem fK7(r:Rg)(v:Vc)(m:dM r)(hv:Sm4 v):Sp 343 [rgV r,vcV v] (I (fJ r v)):=by
 refine zsp Tryz.func343 ?_;have C:=m.1;have N:=m.2.1
 have M:(r.map vcV).length=r.length:=Ae;have z:=fZ2 m hv
 have H:=dT0 (r:=r) Aa;have n:=λk (i:k<r.length)=>gA9 C i
 have o:∀k,k<r.length->bI (aJ4 r k):=λk i=>jO m.2.2.1 ((bC9 C).2 ⟨k,i,rfl⟩);have g:(bF r).drop r.length=[] :=Uy Aa
 generalize fJ r v=A at*;generalize bF r=E at*
 repeat' ((conv=>whnf);first|refine zS ?_|fail)
 refine aU (A:=Nat) (B:=Bool) (λk ins=>mkSt [(0,rgV r),(3, .box 3 0),(5,B ins),(6,I k)] [(3,(vcV v).cells)] []) (λk ins=>k<=r.length/\A=lU (v.1,v.2,1) (E.drop k) ins) (λk ins=>r.length-k) 0 false ?_ ⟨Aa,z⟩ (λk ins J=>?_)
 ·exact zj
 clear z;obtain⟨i,hA⟩:=J;by_cases f:k<r.length;rotate_left
 ·have e:k=r.length:=by omega
  subst e;rw[g,qB]at hA;exact OE
 have heo:=o k f;rw[n k f]at hA;have K:(k+1)% r.length<r.length:=RV _ Aa
 obtain⟨D,G⟩:=jP.1 heo;have F:=fG4 (aJ4 r k).1 (aJ4 r k).2 v
 have b:eX (aJ4 r k) v↔Bb (aJ4 r k) v/\kR (aJ4 r k).1 (aJ4 r k).2 v=0:=by
  rw[gZ heo];constructor
  ·rintro⟨s,j⟩
   refine⟨s,?_⟩;rw[zH D G hv,j];rfl
  ·rintro⟨s,j⟩
   refine⟨s,?_⟩;by_cases q:X (dif (aJ4 r k).2 (aJ4 r k).1) (dif v (aJ4 r k).1)=0
   ·exact q
   ·rw[zH D G hv]at j
    exact absurd j (tC.2 q)
 have L:eX (aJ4 r k) v->A=1:=λq=>by rw[hA];exact oP ((cC3 hv heo).2 q)
 have u:¬eX (aJ4 r k) v->rayC (aJ4 r k) v (kR (aJ4 r k).1 (aJ4 r k).2 v)->A=lU (v.1,v.2,1) (E.drop (k+1)) (!ins):=λq1 q2=>MG;have x:¬eX (aJ4 r k) v->¬rayC (aJ4 r k) v (kR (aJ4 r k).1 (aJ4 r k).2 v)->A=lU (v.1,v.2,1) (E.drop (k+1)) ins:=λq1 q2=>LK
 have Q:(aJ4 r k).1=r.getD k z0:=rfl;have R:(aJ4 r k).2=r.getD ((k+1)% r.length) z0:=rfl
 unfold rayC at u x;unfold Bb at b;rw[Q,R]at F b u x;generalize eX (aJ4 r k) v=P at*;generalize w:r.getD k z0=O at*;generalize y:r.getD ((k+1)% r.length) z0=vb at*;generalize kR O vb v=t at*
 repeat' ((conv=>whnf);first|omega|refine cC0 [(0,999),(6,999),(16,999),(17,999),(18,999),(20,999),(23,999),(25,999),(26,999),(7,7),(8,8)] Af Ac ?_|refine uM Aa ?_|refine aB (l:=r) BO ?_|refine aB (l:=r) Aa ?_|(refine sW (k:=(k+1)% r.length) (kS Aa) K ?_;rw[y])|(refine aU3 (k:=k) Aa f ?_;rw[w])|refine zc F ?_|refine zS ?_|refine zT ?_ ?_<;>intro _|fail)
 all_goals conv=>whnf
 all_goals (try simp only[lH,mG]at*)
 all_goals first
  |exact aG (L (b.2 ⟨⟨Aa,Aa,Aa,Aa⟩,Aa⟩)).symm
  |skip
 all_goals (have c:¬P:=λq=>by have:=b.1 q;omega)
 all_goals first
  |(have d:=u c Aa)
  |(have d:=x c Aa)
 all_goals first
  |refine⟨(k+1, !ins),?_,⟨Aa,d⟩,Aa⟩
  |refine⟨(k+1,ins),?_,⟨Aa,d⟩,Aa⟩
 all_goals (refine dV ?_ ?_ ?_ ?_)
 all_goals repeat' (first|exact trivial|refine And.intro ?_ ?_|with_reducible rfl|exact(λh=>Ah)|exact QH _|omega|exact rfl)
theorem gC4{a b:Bool}{A B:Prop}(d:a=b->A)(c:a≠b->B):branch (eqBB a b) A B:=by
 rw[cA1];exact jU (λh=>d Ff) (λh=>c Ff)
theorem fH5(u v:Vc):Sp 318 [vcV u,vcV v] (DB (aP5 u v)):=by
 refine zsp Tryz.func318 ?_;have e:=fF0 u v;have b:=fR2 u v
 have a:aP5 u v↔bZ u v=0/\0<vdot u v:=Rt;generalize aP5 u v=P at*;generalize bZ u v=c at*;generalize vdot u v=d at*
 repeat' ((conv=>whnf);first|refine zc e ?_|refine zc b ?_|refine zS ?_|refine zT ?_ ?_<;>intro _|fail)
 all_goals conv=>whnf
 all_goals refine aA ?_
 all_goals first
  |exact aC (λh=>by have:=a.1 h;omega)
  |(refine aS1 ?_;rw[a];omega)
theorem fL8(u v:Vc):Sp 345 [vcV u,vcV v] (DB (dG5 u v)):=by
 refine zsp Tryz.func345 ?_;have e:=fF0 u v;have b:=fR2 u v
 have a:dG5 u v↔bZ u v<0\/(bZ u v=0/\vdot u v<0):=Rt;generalize dG5 u v=P at*;generalize bZ u v=c at*;generalize vdot u v=d at*
 repeat' ((conv=>whnf);first|refine zc e ?_|refine zc b ?_|refine zS ?_|refine zT ?_ ?_<;>intro _|fail)
 all_goals conv=>whnf
 all_goals refine aA ?_
 all_goals first
  |exact fE (a.2 Aa)
  |exact aC (λh=>by have:=a.1 h;omega)
  |(refine aS1 ?_;rw[a];omega)
theorem fI1(x:Sg)(d:Vc):Sp 319 [sgV x,vcV d] (DB (aP1 x d)):=by
 refine zsp Tryz.func319 ?_;have h1:=fH5 x.1 d;have h2:=fH5 x.2 d
 have h3:=fL8 x.1 d;have h4:=fL8 x.1 x.2
 have h5:=fF0 d x.2
 have hr:aP1 x d↔¬(aP5 x.1 d\/aP5 x.2 d)/\((¬(dG5 x.1 d↔dG5 x.1 x.2)/\dG5 x.1 x.2)\/((dG5 x.1 d↔dG5 x.1 x.2)/\0<bZ d x.2)):=by
  unfold aP1;by_cases q:aP5 x.1 d\/aP5 x.2 d
  ·rw[Q9 q];exact⟨λh=>h.elim,λh=>h.1 q⟩
  ·rw[Q5 q]
   by_cases a:(dG5 x.1 d↔dG5 x.1 x.2)
   ·rw[Q5 (λh=>h a)]
    exact⟨λh=>⟨q, .inr ⟨a,h⟩⟩,λh=>h.2.elim (λk=>absurd a k.1) (λk=>k.2)⟩
   ·rw[Q9 a]
    exact⟨λh=>⟨q, .inl ⟨a,h⟩⟩,λh=>h.2.elim (λk=>k.2) (λk=>absurd k.1 a)⟩
 generalize aP1 x d=P at*;generalize aP5 x.1 d=s1 at*;generalize aP5 x.2 d=s2 at*;generalize dG5 x.1 d=b at*;generalize dG5 x.1 x.2=e at*;generalize bZ d x.2=c at*;by_cases q3:b<;>by_cases q4:e
 ·rw[dbT q3]at h3
  rw[dbT q4]at h4;exact Nq
 ·rw[dbT q3]at h3
  rw[dbF q4]at h4;have hr2:P↔¬(s1\/s2)/\False:=GH;exact Nu
 ·rw[dbF q3]at h3
  rw[dbT q4]at h4;have hr2:P↔¬(s1\/s2)/\True:=GH;exact Nu
 ·rw[dbF q3]at h3
  rw[dbF q4]at h4;exact Nq
theorem fP9(x y:Sg):Sp 274 [sgV x,sgV y] (DB (dI3 x y)):=by
 refine zsp Tryz.func274 ?_;have d:=fH5 x.1 y.1;have c:=fI1 x y.1
 have b:=fI1 y x.1;have a:dI3 x y↔aP5 x.1 y.1\/aP1 x y.1\/aP1 y x.1:=Rt
 generalize dI3 x y=P at*;generalize aP5 x.1 y.1=e at*;generalize aP1 x y.1=g at*;generalize aP1 y x.1=f at*
 repeat' ((conv=>whnf);first|refine zc d ?_|refine zc c ?_|refine zc b ?_|refine zS ?_|refine zT ?_ ?_<;>intro _|fail)
 all_goals conv=>whnf
 all_goals refine aA ?_
 all_goals first
  |(refine fE (a.2 ?_);simp_all;done)
  |(refine fQ ?_;rw[a];simp_all;done)
theorem fR8(s:Sh)(v:Vc)(f:bG s)(hv:Sm4 v):Sp 316 [shV s,vcV v] (I (lJ s v)):=by
 refine zsp Tryz.func316 ?_;have k:dM s.outer:=f.2.1 _ AQ;have j:∀r∈s.holes,dM r:=λr hr=>f.2.1 r Df
 have n:=fK7 s.outer v k hv;have o:(s.holes.map rgV).length=s.holes.length:=Ae
 have q:=f.1;rw[eG3 f hv];generalize fJ s.outer v=c at*
 repeat' ((conv=>whnf);first|refine zS ?_|fail)
 refine aU (A:=List Rg) (B:=List Rg) (λD R=>mkSt [(2, .box 2 0),(3, .box 3 0),(5,I D.length)] [(2,(shV s).cells),(3,(vcV v).cells)] []) (λD R=>s.holes=D++R/\lG v c s.holes=lG v c R) (λD R=>R.length) [] s.holes ?_ ⟨rfl,rfl⟩ (λD R hp=>?_)
 ·exact zj
 obtain⟨hp,e⟩:=hp;generalize lG v c s.holes=A at*
 cases R with
 |nil=>
  have d:s.holes.length=D.length:=Ad;have g:A=c:=e
  rw[g]
  repeat' ((conv=>whnf);first|omega|refine zc n ?_|refine zS ?_|refine zl (λa=>?_) (λa=>?_))
  all_goals exact zE
 |cons h R=>
  have d:=aO hp;have m:=fK7 h v (j h Ad) hv
  have i:lG v c (h::R)=if fJ h v=2 then 0 else if fJ h v=1 then 1 else lG v c R:=rfl
  rw[i]at e;generalize fJ h v=w at*
  repeat' ((conv=>whnf);first|omega|refine aB (l:=s.holes) Aa ?_|refine aF (l:=s.holes) (A:=D) (x:=h) (B:=R) hp Aa ?_|refine zc m ?_|refine zS ?_|refine zl (λa=>?_) (λa=>?_)|refine ze (λb=>?_) (λb=>?_))
  all_goals conv=>whnf
  ·exact aG (by rw[e,Q9 b])
  ·exact aG (by rw[e,Q5 (by omega),Q9 b])
  ·refine⟨(D++[h],R),?_,⟨Ad,by rw[e,Q5 (by omega),Q5 (by omega)]⟩,Ae⟩
   exact MQ
theorem fJ3(a b:Sh)(n:Int)(f:bG a)(i:bG b):Sp 271 [shV a,shV b,I n] (DB (bL9 a b n)):=by
 refine zsp Tryz.func271 ?_;have m:=fG7 a (iT f) f.1;have hv:=fI8 f
 have r:=cG3 f;have hr:bL9 a b n↔∃v∈rV a,lJ b v=n:=Rt
 generalize bL9 a b n=P at*;generalize rV a=A at*;have j:(A.map vcV).length=A.length:=Ae
 repeat' ((conv=>whnf);first|refine zc m ?_|refine zS ?_|fail)
 refine aU (A:=List Vc) (B:=List Vc) (λD R=>mkSt [(2,I n),(4, .box 4 0),(7, .sl (A.map vcV)),(8,I D.length)] [(4,(shV b).cells)] []) (λD R=>A=D++R/\∀v∈D,lJ b v≠n) (λD R=>R.length) [] A ?_ ⟨rfl,Ae⟩ (λD R hp=>?_)
 ·refine Le.trans (fB (k:=10) rfl (.inl rfl)) ?_
  exact zj
 obtain⟨hp,hD⟩:=hp
 cases R with
 |nil=>
  have d:A.length=D.length:=Ad
  repeat' ((conv=>whnf);first|omega|refine zS ?_|refine zl (λc=>?_) (λc=>?_))
  all_goals conv=>whnf
  exact aA (aC (λh=>Dw))
 |cons x R=>
  have d:=aO hp;have g:x∈A:=Ad
  have o:=fR8 b x i (hv x g);have e:lJ b x=n->P:=λh=>hr.2 ⟨x,g,h⟩
  have hgood:lJ b x≠n->∀v∈D++[x],lJ b v≠n:=λh v hv=>JW;generalize lJ b x=w at*
  repeat' ((conv=>whnf);first|omega|refine aB (l:=A) Aa ?_|refine aF (l:=A) (A:=D) (x:=x) (B:=R) hp Aa ?_|refine zc o ?_|refine zS ?_|refine zl (λc=>?_) (λc=>?_)|refine ze (λheq=>?_) (λheq=>?_))
  all_goals conv=>whnf
  ·exact aA (fE (e heq))
  ·exact JH
def secS(s:Sh)(p:Vc):Option Sg:=secL p 0 (rings s)
def secG0(x:Option Sg):Sg:=x.getD ((0,0),(0,0))
theorem gC5{i:Nat}{r:Rg}{p:Vc}(h:∀k,k<r.length->secV i r p k=none):secR i r p=none:=fE5.1.2 h
theorem gD9{i:Nat}{r:Rg}{p:Vc}{k:Nat}{x:Sg}(hk:k<r.length)(h:∀j,j<k->secV i r p j=none)(hx:secV i r p k=some x):secR i r p=some x:=by
 unfold secR;exact OG
theorem fI3(s:Sh)(p:Vc)(m:bG s)(F:Sm4 p):Sp 273 [shV s,vcV p] (.tup [sgV (secG0 (secS s p)), .lit (.bool (secS s p).isSome)]):=by
 refine zsp Tryz.func273 ?_;have i:=fE1 s (iT m);have c:∀r∈rings s,dM r:=m.2.1
 have v:(rings s).length<=7:=by unfold rings;simp;have:=m.1;omega
 have u:secS s p=secL p 0 (rings s):=rfl;generalize secS s p=X at*;generalize rings s=rs at*;have w:(rs.map rgV).length=rs.length:=Ae
 repeat' ((conv=>whnf);first|refine zc i ?_|refine zS ?_|fail)
 refine aU (A:=List Rg) (B:=List Rg) (λD R=>mkSt [(2, .box 2 0),(3, .box 3 0),(4, .box 4 0),(6, .sl (rs.map rgV)),(7,I D.length)] [(2,(shV s).cells),(3,(vcV p).cells),(4,[I 0,I 0,I 0,I 0])] []) (λD R=>rs=D++R/\X=secL p D.length R) (λD R=>R.length) [] rs ?_ ⟨rfl,u⟩ (λD R hq=>?_)
 ·refine Le.trans (fB (k:=15) rfl (.inl rfl)) ?_
  exact zj
 clear u;obtain⟨hq,f⟩:=hq
 cases R with
 |nil=>
  have b:rs.length=D.length:=Ap;have hx:X=none:=f
  rw[hx];exact NK
 |cons r R=>
  have b:=aO hq;have t:=c r Ap
  have G:=t.1;have z:=t.2.1
  have y:(r.map vcV).length=r.length:=Ae
  repeat' ((conv=>whnf);first|omega|refine aB (l:=rs) Aa ?_|refine aF (l:=rs) (A:=D) (x:=r) (B:=R) hq Aa ?_|refine zS ?_|refine zT ?_ ?_<;>intro _|fail)
  refine lD (A:=Nat) (λk=>mkSt [(2, .box 2 0),(3, .box 3 0),(4, .box 4 0),(6, .sl (rs.map rgV)),(7,I D.length),(8,rgV r),(9,I k)] [(2,(shV s).cells),(3,(vcV p).cells),(4,[I 0,I 0,I 0,I 0])] []) (λk=>k<=r.length/\∀j,j<k->secV D.length r p j=none) (λk=>r.length-k) 0 ?_ ⟨Aa,λj o=>absurd o Aa⟩ (λk n=>?_)
  ·exact zj
  obtain⟨n,g⟩:=n;by_cases hkr:k<r.length;rotate_left
  ·have e:k=r.length:=by omega
   subst e
   repeat' ((conv=>whnf);first|omega|refine zS ?_|refine zT ?_ ?_<;>intro _|fail)
   all_goals conv=>whnf
   refine⟨(D++[r],R),?_,⟨Ap,?_⟩,Ae⟩
   ·exact I8
   ·rw[f,secL,gC5 g,QG,QK];rfl
  have hm1:(k+1)% r.length<r.length:=RV _ Aa;have hm2:(k+2)% r.length<r.length:=RV _ Aa
  have hF:∀x,secV D.length r p k=some x->X=some x:=λx hx=>by rw[f,secL,gD9 hkr g hx];rfl
  have hN1:secV D.length r p k=none->∀j,j<k+1->secV D.length r p j=none:=λh j o=>by
   by_cases e:j=k
   ·subst e;exact h
   ·exact g j Aa
  have hV:secV D.length r p k=open Classical in if r.getD ((k+1)% r.length) z0=p then some (fE8 D.length (vsub (r.getD ((k+2)% r.length) z0) p,vsub (r.getD k z0) p))
   else if r.getD k z0≠p/\eX (r.getD k z0,r.getD ((k+1)% r.length) z0) p then some (fE8 D.length (vsub (r.getD ((k+1)% r.length) z0) (r.getD k z0),vsub (r.getD k z0) (r.getD ((k+1)% r.length) z0)))else none:=rfl
  generalize C:secV D.length r p k=E at*;generalize hva:r.getD k z0=d at*;generalize hvb:r.getD ((k+1)% r.length) z0=vb at*;generalize hvc:r.getD ((k+2)% r.length) z0=vc at*;have c1:=fD vc p;have c2:=fD d p
  have c3:=fD vb d;have c4:=fD d vb
  have c5:=fN7 (d,vb) p;by_cases q:0<D.length
  ·have hfl:∀x:Sg,fE8 D.length x=(x.2,x.1):=λx=>Q9 q
   exact Nc
  ·have hfl:∀x:Sg,fE8 D.length x=x:=λx=>Q5 q
   exact Nc
theorem gA8{c s:Sh}(b:bG c)(a:bG s):aO3 c s↔¬rJ c s [2]/\¬bL9 s c 0/\¬bL9 c s 2/\∀p∈rV c++rV s,fH8 c s p:=by
 grind [fI8,fT3,aO3,bD2]
theorem fR5(c s:Sh)(b:bG c)(d:bG s):Sp 221 [shV c,shV s] (DB (aO3 c s)):=by
 refine zsp Tryz.func221 ?_;have H:=fP1 c s b d;have G:=fJ3 s c 0 d b
 have J:=fJ3 c s 2 b d;have Q:=fG7 c (iT b) b.1
 have L:=fG7 s (iT d) d.1;have Z:=cG3 b
 have T:=cG3 d
 have j:∀p∈rV c++rV s,Sm4 p:=λp hp=>by
  rcases QJ.1 hp with hp|hp
  ·exact fI8 b p hp
  ·exact fI8 d p hp
 have f:=gA8 b d;generalize aO3 c s=P at*;generalize rJ c s [2] =S at*;generalize bL9 s c 0=W at*;generalize bL9 c s 2=V at*;generalize rV c=A at*;generalize rV s=B at*;have N:(A.map vcV).length=A.length:=Ae
 have K:(B.map vcV).length=B.length:=Ae
 repeat' ((conv=>whnf);first|refine zc H ?_|refine zc G ?_|refine zc J ?_|refine zc Q ?_|refine zc L ?_|refine iH rfl (.inl rfl) rfl (QC rfl) (aM5 B) (by show(A.map vcV).length+(B.map vcV).length<=1000000000;omega) ?_|refine zS ?_|refine zT ?_ ?_<;>intro _|fail)
 all_goals conv=>whnf
 ·exact aA (aC (λh=>absurd Ag (f.1 h).1))
 ·exact aA (aC (λh=>absurd Ag (f.1 h).2.1))
 ·exact aA (aC (λh=>absurd Ag (f.1 h).2.2.1))
 have i:P↔∀p∈A++B,fH8 c s p:=⟨λh=>(f.1 h).2.2.2,λh=>f.2 ⟨Ag,Ag,Ag,h⟩⟩;clear f;have O:(A++B).length=A.length+B.length:=QG
 have m:A.map vcV++B.map vcV=(A++B).map vcV:=Ae;generalize U:A++B=C at*;have M:(C.map vcV).length=C.length:=Ae
 refine aU (A:=List Vc) (B:=List Vc) (λD R=>mkSt [(2, .box 2 0),(3, .box 3 0),(5, .sl (C.map vcV)),(6,I D.length)] [(2,(shV c).cells),(3,(shV s).cells)] []) (λD R=>C=D++R/\∀q∈D,fH8 c s q) (λD R=>R.length) [] C ?_ ⟨rfl,Ae⟩ (λD R hp=>?_)
 ·rw[<-m]
  refine Le.trans (fB (k:=25) rfl (.inl rfl)) ?_;exact zj
 obtain⟨hp,hD⟩:=hp
 cases R with
 |nil=>
  have g:C.length=D.length:=Ad
  repeat' ((conv=>whnf);first|omega|refine zS ?_|refine zT ?_ ?_<;>intro _|fail)
  all_goals conv=>whnf
  refine aA (fE (i.2 λq F=>?_));rw[hp,QU]at F;exact hD q F
 |cons q R=>
  have g:=aO hp;have e:q∈C:=Ad
  have v:=fI3 c q b (j q e);have r:=fI3 s q d (j q e)
  have t:fH8 c s q↔∀x y,secS c q=some x->secS s q=some y->¬dI3 (x.2,x.1) y:=Rt;have a:fH8 c s q->∀z∈D++[q],fH8 c s z:=λh z hz=>Ja
  generalize secS c q=X at*;generalize secS s q=Y at*;rcases X with _|x
  ·skip
   repeat' ((conv=>whnf);first|omega|refine cC0 [(2,2),(3,3),(5,999),(6,999),(37,999),(38,999),(39,999),(46,999),(47,999),(48,999),(7,7),(9,9)] Af Ac ?_|refine aB (l:=C) Aa ?_|refine aF (l:=C) (A:=D) (x:=q) (B:=R) hp Aa ?_|refine zc v ?_|refine zc r ?_|refine zS ?_|refine zT ?_ ?_<;>intro _|fail)
   all_goals conv=>whnf
   refine⟨(D++[q],R),?_,⟨Ad,a (t.2 (λu w o=>by cases o))⟩,Ae⟩
   exact MQ
  rcases Y with _|y
  ·skip
   repeat' ((conv=>whnf);first|omega|refine cC0 [(2,2),(3,3),(5,999),(6,999),(37,999),(38,999),(39,999),(46,999),(47,999),(48,999),(7,7),(9,9)] Af Ac ?_|refine aB (l:=C) Aa ?_|refine aF (l:=C) (A:=D) (x:=q) (B:=R) hp Aa ?_|refine zc v ?_|refine zc r ?_|refine zS ?_|refine zT ?_ ?_<;>intro _|fail)
   all_goals conv=>whnf
   refine⟨(D++[q],R),?_,⟨Ad,a (t.2 (λu w _ E=>by cases E))⟩,Ae⟩
   exact MQ
  have k:=fP9 (x.2,x.1) y
  have n:fH8 c s q↔¬dI3 (x.2,x.1) y:=by
   rw[t];constructor
   ·intro h;exact h x y rfl rfl
   ·intro h u w o E;cases o;cases E;exact h
  generalize dI3 (x.2,x.1) y=cm at*
  repeat' ((conv=>whnf);first|omega|refine cC0 [(2,2),(3,3),(5,999),(6,999),(37,999),(38,999),(39,999),(46,999),(47,999),(48,999),(7,7),(9,9)] Af Ac ?_|refine aB (l:=C) Aa ?_|refine aF (l:=C) (A:=D) (x:=q) (B:=R) hp Aa ?_|refine zc v ?_|refine zc r ?_|refine zc k ?_|refine zS ?_|refine zT ?_ ?_<;>intro _|fail)
  all_goals conv=>whnf
  all_goals first
   |exact aA (aC (λh=>absurd Ag (n.1 (i.1 h q e))))
   |skip
  refine⟨(D++[q],R),?_,⟨Ad,a (n.2 Ag)⟩,Ae⟩;exact MQ
theorem fG0(c s:Sh)(d:gV c)(a:gV s):Sp 180 [shV c,shV s] (.tup [DB (lI c s),I (pO c s)]):=by
 refine zsp Tryz.func180 ?_;have m1:=aD7 c d;have m2:=aD7 s a
 by_cases h1:bG c
 ·by_cases h2:bG s
  ·have e1:DB (lI c s)=DB (aO3 c s):=Rh (λb=>V.lit (.bool b)) (fQ ⟨λh=>h.2.2,λh=>⟨h1,h2,h⟩⟩)
   have e2:pO c s=0:=Q9 ⟨h1,h2⟩;have m3:=fR5 c s h1 h2
   exact Ox
  ·exact Jl
 ·exact Jm
end Go.Proofs.Led
