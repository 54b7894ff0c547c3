/- Lemmas. -/
import Derived.Test.YtcmgfjaiegpddaaGreatB27
import Derived.Test.YtcmgfjaiegpddaaGreatB29
set_option linter.all false
set_option maxRecDepth 100000
set_option maxHeartbeats 8000000
noncomputable section
namespace Go.Proofs.Led
open Go Go.Proofs Go.Ab Tryz
def gH4{a:Type}(f:a->V)(O:List a)(k:Nat)(b:k<=O.length):(O.drop k++O.take k).map f=List.drop (k:Int).toNat (List.take ((O.map f).length:Int).toNat (O.map f))++List.take (k:Int).toNat (O.map f):=by
 grind [TQ,UF,List.map_take,List.map_drop]
def fM7(r:Rg)(y:r.length<=1000000)(n:r≠ []):Sp 263 [rgV r] (.own 84 ((wL r).map vcV)):=by
 refine zsp func263 ?_;have v:(r.map vcV).length=r.length:=Af;have g:0<r.length:=by cases r with|nil=>exact absurd rfl n|cons x l=>simp
 repeat' ((conv=>whnf);first|refine zS ?_|fail)
 refine aU (A:=Nat) (B:=Nat) (λi k=>mkSt [(0,rgV r),(3,I k),(4,I i)] [] []) (λi k=>i<=r.length/\k<r.length/\(k<i\/k=0)/\(∀j,j<i->¬kF (r.getD j z0) (r.getD k z0))/\∀j,j<k->r.getD j z0≠r.getD k z0) (λi k=>r.length-i) 0 0 ?_ ⟨Aa,g, .inr rfl,λj f=>Aa,λj f=>Aa⟩ (λi k w=>?_);exact zj;obtain⟨hi,m,u,b,a⟩:=w;by_cases c:i<r.length
 ·have o:=fJ0 (r.getD i z0) (r.getD k z0)
  repeat' ((conv=>whnf);first|omega|refine aB (l:=r) Aa ?_|refine aU3 (k:=i) Aa c ?_|refine aU3 (k:=k) Aa m ?_|refine zc o ?_|refine zS ?_|refine zT ?_ ?_<;>intro _|fail)
  all_goals conv=>whnf
  have hv:kF (r.getD i z0) (r.getD k z0):=by assumption
  refine⟨(i+1,i),?_,⟨Aa,c, .inl Aa,λj f=>?_,λj f q=>?_⟩,Aa⟩;exact zj;by_cases e:j=i;subst e;exact λq=>fJ8 q q;exact λq=>b j Aa (fD9 q hv);exact b j f (by rw[q];exact hv);have hv:¬kF (r.getD i z0) (r.getD k z0):=by assumption
  refine⟨(i+1,k),?_,⟨Aa,m,Aa,λj f=>?_,a⟩,Aa⟩;exact zj;by_cases e:j=i;subst e;exact hv;exact b j Aa
 have d:i=r.length:=by omega
 subst d;have s:=(fJ7 ⟨m,b,a⟩).2;rw[s,gH4 vcV r k Aa];have t:(List.take (k:Int).toNat (r.map vcV)).length=k:=by rw[TQ,SE];omega
 repeat' ((conv=>whnf);first|omega|refine cC0 [(0,999),(3,999)] Ad Ac ?_|refine fU ⟨Aa,Aa,Aa, .inr (aM5 r)⟩ ?_|refine iH rfl (.inl rfl) rfl (Q9 rfl) (fW4 r _ _) (by show 0+(List.drop _ (List.take _ (r.map vcV))).length<=1000000000;rw[Tv,SE];omega) ?_|refine iH rfl (.inl rfl) rfl (Q9 rfl) (fQ7 r _) (by show(List.drop _ (List.take _ (r.map vcV))).length+(List.take _ (r.map vcV)).length<=1000000000;rw[Tv,SE,SE];omega) ?_|refine zS ?_|refine zT ?_ ?_<;>intro _|fail)
 all_goals conv=>whnf
 exact PZ
def srtC(s:Sh)(X:List Rg):List V:=match X with
 | [] => [rgV (wL s.outer),nilV]
 |x::X=> [rgV (wL s.outer), .sl ((x::X).map rgV)]
def fQ8(s:Sh)(n:Nat)(X:List Rg):St:=mkSt [(1, .box 1 0),(2, .box 2 0),(3, .box 3 0),(4,I n)] [(1,(shV s).cells),(2,[nilV,nilV]),(3,srtC s X)] []
def gG4(s:Sh)(n:Nat)(X:List Rg)(h:Rg)(k:Nat):St:=mkSt [(1, .box 1 0),(2, .box 2 0),(3, .box 3 0),(4,I n),(5,rgV h),(6,I k)] [(1,(shV s).cells),(2,[nilV,nilV]),(3,srtC s X)] []
def gC2{s:Sh}{X:List Rg}(h:X≠ []):srtC s X=[rgV (wL s.outer), .sl (X.map rgV)] :=by
 cases X with
 |nil=>exact absurd rfl h
 |cons x X=>rfl
def fO4(l:List Rg)(n:Nat):∀y∈(l.map rgV).take n,y.cells.length=1:=λy a=>fM3 l y (SS a)
def gE3(l:List Rg)(n m:Nat):∀y∈((l.map rgV).take m).drop n,y.cells.length=1:=λy a=>fM3 l y (SS (Tc a))
theorem gF9(x:Rg)(l:List Rg):(insH x l).length=l.length+1:=by
 unfold insH;grind
def gF7(l:List Rg):(srtH l).length=l.length:=by
 have key:∀(l o:List Rg),(l.foldl (λo x=>insH x o) o).length=o.length+l.length:=by
  intro l;induction l<;>grind [gF9,SY]
 have:=key l [];simpa [srtH]using this
def fU2(x:Rg)(l:List Rg):fA x l<=l.length:=by
 grind [List.takeWhile_sublist,fA]
def gD7{x:Rg}{l:List Rg}{i:Nat}(hi:i<fA x l)(h:i<l.length):kF (keyR l[i]) (keyR x):=by
 obtain⟨a,b⟩:=fM8 (λy=>decB (kF (keyR y) (keyR x))) l
 have c:l[i]∈l.takeWhile (λy=>decB (kF (keyR y) (keyR x))):=by
  grind [List.mem_iff_getElem,SE,fA]
 grind [dH,fU7]
def gD5{x:Rg}{l:List Rg}{y:Rg}(h:l[fA x l]? =some y):¬kF (keyR y) (keyR x):=by
 obtain⟨b,a⟩:=fM8 (λy=>decB (kF (keyR y) (keyR x))) l;have:=a y (by rw[Tz,Ux];exact h);exact dW.1 this
def gG7{z:Rg}:∀ {l:List Rg},z∈srtH l->z∈l:=by
 have key:∀(l o:List Rg),z∈l.foldl (λo x=>insH x o) o->z∈o\/z∈l:=by
  intro l;induction l<;>grind [fW9]
 intro l h;rcases key l [] h with h|h;cases h;exact h
theorem fS7{r:Rg}:(wL r).length=r.length:=by
 by_cases h:r=[];subst h;rfl;obtain⟨k,a⟩:=fY4 h;rw[(fJ7 a).2,Q5,Tv,SE];have:=a.1;omega
def fQ5(s:Sh)(G:gV s)(h6:s.holes.length<=1000)(c:∀r∈rings s,r≠ []):Sp 217 [shV s] (shV (fP2 s)):=by
 refine zsp func217 ?_;have U:(s.holes.map rgV).length=s.holes.length:=Af;have H:=fM7 s.outer G.1 (c _ AB);have L:fP2 s=⟨wL s.outer,srtH (s.holes.map wL)⟩:=rfl;repeat' ((conv=>whnf);first|refine zc H ?_|refine zS ?_|fail)
 refine aU (A:=List Rg) (B:=List Rg) (λD R=>fQ8 s D.length (srtH (D.map wL))) (λD R=>s.holes=D++R) (λD R=>R.length) [] s.holes ?_ rfl (λD R hp=>?_);show Le T _ (fQ8 s 0 []);refine Le.trans (fB (k:=9) rfl (.inl rfl)) ?_;exact zj;cases R with
 |nil=>
  have j:s.holes.length=D.length:=HY;have e:s.holes=D:=HY;rw[L,e];generalize srtH (D.map wL)=X at*;cases X with
  |nil=>exact JM
  |cons x X=>exact JM
 |cons h R=>
  have j:=aO hp;have f:h∈s.holes:=Ae;have g:h≠ [] :=c h (by unfold rings;simp[f]);have F:=fM7 h (G.2.2 h f) g;have C:=gF7 (D.map wL);rw[SG]at C;have hsn:srtH ((D++[h]).map wL)=insH (wL h) (srtH (D.map wL)):=by rw[Ti,Tq,Uc,fK1]
  have o:∀x∈srtH (D.map wL),0<x.length:=λx Z=>by
   obtain⟨r,W,rfl⟩:=Td.1 (gG7 Z);have:r≠ [] :=c r (by unfold rings;rw[hp];simp[W]);rw[fS7];cases r with
   |nil=>exact absurd rfl this
   |cons a l=>simp
  have u:0< (wL h).length:=by
   rw[fS7];cases h with
   |nil=>exact absurd rfl g
   |cons a l=>simp
  generalize wL h=x at*;generalize srtH (D.map wL)=X at*
  have d:∀k,k<=fA x X->(X.length<=k\/¬kF ((X.getD k []).getD 0 z0) (x.getD 0 z0))->k=fA x X:=λk b m=>by
   rcases TI k (fA x X)with hlt|v;have t:=fU2 x X;have:=gD7 hlt Aa;rcases m with m|m;omega;have e:X.getD k [] =X[k] :=by rw[SN,RY (show k<X.length from Aa)];rfl
   rw[e]at m;exact absurd this m;omega
  have w:∀k,k<=fA x X->k<X.length->kF ((X.getD k []).getD 0 z0) (x.getD 0 z0)->k<fA x X:=λk b S hv=>by
   rcases TI k (fA x X)with hlt|v;exact hlt;have e:k=fA x X:=by omega
   have K:X[fA x X]? =some (X.getD k []):=by rw[<-e,SN,RY S];rfl
   exact absurd hv (gD5 K)
  have hins:∀k,k=fA x X->insH x X=X.take k++x::X.drop k:=λk b=>by rw[b];rfl
  have M:(X.map rgV).length=X.length:=Af;have t:=fU2 x X;cases X with
  |nil=>
   have h0:([] :List Rg).length=0:=rfl;repeat' ((conv=>whnf);first|omega|refine aB (l:=s.holes) Aa ?_|refine aF (l:=s.holes) (A:=D) (x:=h) (B:=R) hp Aa ?_|refine zc F ?_|refine zS ?_|refine zl (λhlt=>?_) (λhlt=>?_))
   refine lD (A:=Nat) (λk=>gG4 s D.length [] x k) (λk=>k<=fA x []) (λk=>fA x []-k) 0 ?_ Aa (λk b=>?_);refine Le.trans (fB (k:=23) rfl (.inl rfl)) ?_;show Le T _ (mkSt [(1, .box 1 0),(2, .box 2 0),(3, .box 3 0),(4,I D.length),(5,rgV x),(6,I 0)] [(1,(shV s).cells),(2,[nilV,nilV]),(3,[rgV (wL s.outer),nilV])] []);exact zj;have z:k=0:=by have:fA x [] =0:=rfl;omega
   subst z;have hi:insH x [] =[x] :=rfl;repeat' ((conv=>whnf);first|omega|refine cC0 [(3,3),(45,3),(53,3),(58,3)] Ad Ac ?_|refine iH rfl (.inl rfl) rfl (Q9 rfl) (λy E=>by cases E) (show 0+0<=1000000000 from Aa) ?_|refine iH rfl (.inl rfl) rfl (Q9 rfl) (dA rfl) (show 0+1<=1000000000 from Aa) ?_|refine iH rfl (.inl rfl) rfl (Q9 rfl) (λy E=>by cases E) (show 1+0<=1000000000 from Aa) ?_|refine fU ⟨Aa,Aa,Aa, .inl rfl⟩ ?_|refine zS ?_|refine zl (λhlt=>?_) (λhlt=>?_))
   all_goals conv=>whnf
   refine⟨(D++[h],R),?_,Ae,Af⟩;show Le T _ (fQ8 s (D++[h]).length (srtH ((D++[h]).map wL)));rw[hsn,hi,Q5,SA];refine Le.trans (fB (k:=44) rfl (.inl rfl)) ?_;show Le T _ (mkSt [(1, .box 1 0),(2, .box 2 0),(3, .box 3 0),(4,I ((D.length:Int)+1))] [(1,(shV s).cells),(2,[nilV,nilV]),(3,[rgV (wL s.outer), .sl [rgV x]])] []);exact zj
  |cons y Y=>
   have hY:(y::Y).length=Y.length+1:=rfl;repeat' ((conv=>whnf);first|omega|refine aB (l:=s.holes) Aa ?_|refine aF (l:=s.holes) (A:=D) (x:=h) (B:=R) hp Aa ?_|refine zc F ?_|refine zS ?_|refine zl (λhlt=>?_) (λhlt=>?_))
   refine lD (A:=Nat) (λk=>gG4 s D.length (y::Y) x k) (λk=>k<=fA x (y::Y)) (λk=>fA x (y::Y)-k) 0 ?_ Aa (λk b=>?_);refine Le.trans (fB (k:=23) rfl (.inl rfl)) ?_;show Le T _ (mkSt [(1, .box 1 0),(2, .box 2 0),(3, .box 3 0),(4,I D.length),(5,rgV x),(6,I 0)] [(1,(shV s).cells),(2,[nilV,nilV]),(3,[rgV (wL s.outer), .sl ((y::Y).map rgV)])] []);exact zj;have J:=fJ0 (((y::Y).getD k []).getD 0 z0) (x.getD 0 z0);have n:=d k b;have P:=w k b;have i:k< (y::Y).length->0< ((y::Y).getD k []).length:=λq=>o _ (getD_mem q);have N:∀y'∈(List.map rgV (y::Y)).take k,y'.cells.length=1:=fO4 (y::Y) k;have aa:(x.map vcV).length=x.length:=Af;have ab:((y::Y).map rgV).length=Y.length+1:=Af;have Q:(((y::Y).getD k []).map vcV).length=((y::Y).getD k []).length:=Af;repeat' ((conv=>whnf);first|refine cC0 [(3,3),(45,3),(53,3),(58,3)] Ad Ac ?_|refine aB (l:=x) Aa ?_|refine aB (l:=(y::Y).getD k []) (by have:=i Aa;omega) ?_|refine aB (l:=y::Y) Aa ?_|refine eG2 (l:=y::Y) (k:=k) Aa Aa ?_|refine aU3 (r:=x) (k:=0) rfl u ?_|refine aU3 (r:=(y::Y).getD k []) (k:=0) rfl (i Aa) ?_|refine zc J ?_|refine iH rfl (.inl rfl) rfl (Q9 rfl) (fO4 (y::Y) _) (by show 0+(List.take _ ((y::Y).map rgV)).length<=1000000000;rw[SE];omega) ?_|refine iH rfl (.inl rfl) rfl (Q9 rfl) (dA rfl) (by show(List.take _ ((y::Y).map rgV)).length+1<=1000000000;rw[SE];omega) ?_|refine iH rfl (.inl rfl) rfl (Q9 rfl) (gE3 (y::Y) _ _) (by show(List.take _ ((y::Y).map rgV)++[_]).length+(List.drop _ (List.take _ ((y::Y).map rgV))).length<=1000000000;rw[Q5,SE,SA,Tv,SE];omega) ?_|refine fU ⟨Aa,Aa,Aa, .inr (fM3 (y::Y))⟩ ?_|refine zS ?_|refine zd (λO=>?_) (λO=>?_)|refine zl (λhlt=>?_) (λhlt=>?_))
   all_goals conv=>whnf
   have hv:kF (((y::Y).getD k []).getD 0 z0) (x.getD 0 z0):=by assumption
   have:=P Aa hv;refine⟨k+1,?_,Aa,Aa⟩;show Le T _ (mkSt [(1, .box 1 0),(2, .box 2 0),(3, .box 3 0),(4,I D.length),(5,rgV x),(6,I ((k:Int)+1))] [(1,(shV s).cells),(2,[nilV,nilV]),(3,[rgV (wL s.outer), .sl ((y::Y).map rgV)])] []);exact zj;have hk':=n (.inr Ag);exact O8;have hk':=n (.inl Aa);exact O8
def fM2(s:Sh)(f:gV s):Sp 179 [shV s] (shV (qO s)):=by
 refine zsp func179 ?_;have a:=aD7 s f;by_cases h:bG s;rotate_left
 ·rw[dbF h]at a
  rw[bH5 h];repeat' ((conv=>whnf);first|refine zc a ?_|refine zS ?_|fail)
  all_goals exact zE
 rw[dbT h]at a;have b:∀r∈rings s,r≠ [] :=λr g e=>by have:=(h.2.1 r g).1;rw[e]at this;simp at this
 have d:=fQ5 s f (by have:=h.1;omega) b;rw[fV8 h]at d;generalize qO s=c at*;repeat' ((conv=>whnf);first|refine zc a ?_|refine zc d ?_|refine zS ?_|fail)
 all_goals exact zE
def fZ5(a b:Rg)(i:a.length<=1000000)(j:b.length<=1000000):Sp 262 [rgV a,rgV b] (DB (a=b)):=by
 refine zsp func262 ?_;have f:(a.map vcV).length=a.length:=Af;have g:(b.map vcV).length=b.length:=Af;generalize hP:(a=b)=P;have hr:P↔a=b:=Ic;clear hP;repeat' ((conv=>whnf);first|refine zS ?_|refine zT ?_ ?_<;>intro _|fail)
 all_goals conv=>whnf
 all_goals first
  |exact aA (aC (λh=>by have:=SK List.length (hr.1 h);omega))
  |skip
 refine oU (A:=List Vc) (B:=List Vc) (C:=List Vc) (λD R S=>mkSt [(0,rgV a),(1,rgV b),(5,I D.length)] [] []) (λD R S=>a=D++R/\b=D++S) (λD R S=>R.length) [] a b ?_ ⟨rfl,rfl⟩ (λD R S hp=>?_);exact zj;obtain⟨hp,hq⟩:=hp;cases R with
 |nil=>exact Je
 |cons x R=>
  cases S with
  |nil=>exact KP
  |cons y S=>
   have hlen:=aO hp;have d:=aO hq;have e:x≠y->¬P:=λh hP=>J7;repeat' ((conv=>whnf);first|omega|refine aB (l:=a) Aa ?_|refine aB (l:=b) Aa ?_|refine aF (l:=a) (A:=D) (x:=x) (B:=R) hp Aa ?_|refine aF (l:=b) (A:=D) (x:=y) (B:=S) hq Aa ?_|refine aT1 ?_|refine aB4 (λc=>?_) (λc=>?_)|refine zS ?_|refine zT ?_ ?_<;>intro _|fail)
   all_goals conv=>whnf
   all_goals first
    |exact aA (aC (e AU))
    |skip
   exact Ou
def fW7(a b:Rg)(d:a.length<=1000000)(e:b.length<=1000000):Sp 216 [rgV a,rgV b] (DB (a=b)):=by
 refine zsp func216 ?_;have c:=fZ5 a b d e;generalize (a=b)=P at*;repeat' ((conv=>whnf);first|refine zc c ?_|refine zS ?_|fail)
 all_goals conv=>whnf
 exact aA rfl
def fV6(a b:Sh)(g:gV a)(j:gV b):Sp 178 [shV a,shV b] (DB (a=b)):=by
 refine zsp func178 ?_;have u:=fE1 a g;have v:=fE1 b j;have s:∀r∈rings a,r.length<=1000000:=λr hr=>g.mem hr;have t:∀r∈rings b,r.length<=1000000:=λr hr=>j.mem hr;have J:(rings a).length<=1000001:=by have:=g.2.1;unfold rings;simp;omega
 have K:(rings b).length<=1000001:=by have:=j.2.1;unfold rings;simp;omega
 have hr:(a=b)↔rings a=rings b:=gE1.symm;generalize (a=b)=P at*;generalize rings a=A at*;generalize rings b=B at*;have E:(A.map rgV).length=A.length:=Af;have F:(B.map rgV).length=B.length:=Af;repeat' ((conv=>whnf);first|refine zc u ?_|refine zc v ?_|refine zS ?_|refine ze (λc=>?_) (λc=>?_))
 ·have z:A.length=B.length:=by
   have q:((A.map rgV).length:Int)=((B.map rgV).length:Int):=c;omega
  clear c;refine oU (A:=List Rg) (B:=List Rg) (C:=List Rg) (λD R S=>mkSt [(5, .sl (A.map rgV)),(6, .sl (B.map rgV)),(7,I D.length)] [] []) (λD R S=>A=D++R/\B=D++S) (λD R S=>R.length) [] A B ?_ ⟨rfl,rfl⟩ (λD R S hp=>?_);refine Le.trans (Le.trans (fB (k:=9) rfl (.inl rfl)) (fB (k:=11) rfl (.inl rfl))) ?_;exact zj;obtain⟨hp,hq⟩:=hp;cases R with
  |nil=>
   have f:A.length=D.length:=Ae
   have G:S=[] :=by
    have h1:B.length=D.length+S.length:=Ap;exact Tm.1 Aa
   subst G;have i:P:=hr.2 IC;clear hp hq hr;repeat' ((conv=>whnf);first|omega|refine zS ?_|refine zl (λd=>?_) (λd=>?_))
   all_goals conv=>whnf
   exact aA (fE i)
  |cons x R=>
   cases S with
   |nil=>
    have h1:B.length=D.length:=Ap;have L:=aO hp;exfalso;omega
   |cons y S=>
    have f:=aO hp;have m:=aO hq;have n:¬x=y->¬P:=λh hP=>J7;have w:=fW7 x y (s x Ae) (t y Ap);have o:x=y->B=D++[x] ++S:=λh=>by rw[hq,h];simp
    generalize (x=y)=e at*;repeat' ((conv=>whnf);first|omega|refine aB (l:=A) Aa ?_|refine aB (l:=B) Aa ?_|refine aF (l:=A) (A:=D) (x:=x) (B:=R) hp Aa ?_|refine aF (l:=B) (A:=D) (x:=y) (B:=S) hq Aa ?_|refine zc w ?_|refine zS ?_|refine zd (λH=>?_) (λH=>?_)|refine zl (λd=>?_) (λd=>?_))
    all_goals conv=>whnf
    all_goals first
     |exact aA (aC (n Ag))
     |skip
    refine⟨(D++[x],R,S),?_,⟨Ae,o Ag⟩,Af⟩;exact NQ
 all_goals conv=>whnf
 refine aA (aC (λh=>c ?_));show((A.map rgV).length:Int)=((B.map rgV).length:Int);rw[hr.1 h]
def fF5(p:Vc):Sp 144 [vcV p] (DB (dQ p)):=by
 refine zsp func144 ?_;have a:dQ p↔0<=p.1/\0<=p.2/\p.1<=1900/\p.2<=1900:=by unfold dQ;omega
 generalize dQ p=P at*;repeat' ((conv=>whnf);first|refine zS ?_|refine zT ?_ ?_<;>intro _|fail)
 all_goals conv=>whnf
 all_goals refine aA ?_
 all_goals first
  |(refine le_dec ?_;rw[a];omega)
  |exact aC (λh=>by have:=a.1 h;omega)
def fE6(s:Sh)(d:gV s):Sp 143 [shV s] (DB (jV s)):=by
 refine zsp func143 ?_;have a:jV s↔bG s/\qO s=s:=⟨λh=>⟨h.1,h.2.symm⟩,λh=>⟨h.1,h.2.symm⟩⟩;have e:=aD7 s d;have f:=fM2 s d
 have b:gV (qO s):=by
  by_cases h:bG s;exact aU5 h;rw[bH5 h];exact⟨IE,IE,λr a=>by simp[sh0]at a⟩
 have g:=fV6 (qO s) s b d;generalize jV s=P at*;generalize (qO s=s)=j at*;generalize qO s=c at*;generalize bG s=i at*;repeat' ((conv=>whnf);first|refine zc e ?_|refine zc f ?_|refine zc g ?_|refine zS ?_|refine zT ?_ ?_<;>intro _|fail)
 all_goals conv=>whnf
 all_goals first
  |exact aA (fQ ⟨λh=>a.2 ⟨Ag,h⟩,λh=>(a.1 h).2⟩)
  |exact aA (aC (λh=>absurd (a.1 h).1 Ag))
def gA2(l:List Sg):∀y∈l.map sgV,y.cells.length=4:=λy hy=>A7
def redSt(rs:List Rg)(D:List Rg):St:=match D with
 | [] =>mkSt [(3,nilV),(4, .sl (rs.map rgV)),(5,I 0)] [] [(7,⟨0, .frz,23,rs.map rgV⟩)]
 |d::D=>mkSt [(3, .arr 20 D.length),(4, .sl (rs.map rgV)),(5,I ((D.length:Int)+1))] [] [(7,⟨0, .frz,23,rs.map rgV⟩),(20,⟨D.length, .own,275,((d::D).flatMap bF).map sgV⟩)]
def gG9{r:Rg}(h:r.length<=1000000):(bF r).length<=1000000:=FO
def fK8(s:Sh)(c:gV s)(m:s.holes.length<=6):Sp 265 [shV s] (.own 275 ((aC0 s).map sgV)):=by
 refine zsp func265 ?_;have i:=fE1 s c;have f:∀r∈rings s,r.length<=1000000:=λr v=>c.mem v;have b:∀ {D R:List Rg},rings s=D++R->(D.flatMap bF).length<=7000000:=λh=>bC1 c m h;have o:aC0 s=(rings s).flatMap bF:=rfl;have hne:rings s≠ [] :=AB;have u:(rings s).length<=7:=FC;rw[o];generalize rings s=A at*;have n:(A.map rgV).length=A.length:=Af;repeat' ((conv=>whnf);first|refine zc i ?_|refine zS ?_|fail)
 refine aU (A:=List Rg) (B:=List Rg) (λD R=>redSt A D) (λD R=>A=D++R) (λD R=>R.length) [] A ?_ rfl (λD R hp=>?_);exact Lr;have hp:A=D++R:=hp;cases R with
 |nil=>exact JH
 |cons r R=>
  have hlen:=aO hp;have a:=f r Ae;have g:=fE7 r a;have q:=b (D:=D) (R:=r::R) hp;have t:=gG9 a;cases D with
  |nil=>
   have j:([] :List Rg).length=0:=rfl;repeat' ((conv=>whnf);first|omega|refine aB (l:=A) Aa ?_|refine aF (l:=A) (A:=[]) (x:=r) (B:=R) hp Aa ?_|refine zc g ?_|refine gX (Q9 rfl) (gA2 (bF r)) (by show((bF r).map sgV).length<=1000000000;rw[SG];omega) ?_|refine zS ?_|refine zT ?_ ?_<;>intro _|fail)
   all_goals conv=>whnf
   refine⟨([r],R),?_,hp,Af⟩;show Le T _ (mkSt [(3, .arr 20 0),(4, .sl (A.map rgV)),(5,I (0+1))] [] [(7,⟨0, .frz,23,A.map rgV⟩),(20,⟨0, .own,275,([r].flatMap bF).map sgV⟩)]);rw[show [r].flatMap bF=bF r from Af];exact zj
  |cons d D=>
   have j:(d::D).length=D.length+1:=rfl;repeat' ((conv=>whnf);first|omega|refine aB (l:=A) Aa ?_|refine aF (l:=A) (A:=d::D) (x:=r) (B:=R) hp Aa ?_|refine zc g ?_|refine iH rfl (.inl rfl) rfl (Q9 rfl) (gA2 (bF r)) (by show(((d::D).flatMap bF).map sgV).length+((bF r).map sgV).length<=1000000000;rw[SG,SG];omega) ?_|refine zS ?_|refine zT ?_ ?_<;>intro _|fail)
   all_goals conv=>whnf
   refine⟨(d::(D++[r]),R),?_,Ae,Af⟩;show Le T _ (mkSt [(3, .arr 20 (D++[r]).length),(4, .sl (A.map rgV)),(5,I (((D++[r]).length:Int)+1))] [] [(7,⟨0, .frz,23,A.map rgV⟩),(20,⟨(D++[r]).length, .own,275,((d::(D++[r])).flatMap bF).map sgV⟩)]);rw[show((d::(D++[r])).flatMap bF).map sgV=((d::D).flatMap bF).map sgV++(bF r).map sgV from Af,Q5,SA];exact zj
def rveSt(rs:List Rg)(D:List Rg):St:=match D with
 | [] =>mkSt [(3,nilV),(4, .sl (rs.map rgV)),(5,I 0)] [] [(7,⟨0, .frz,23,rs.map rgV⟩)]
 |d::D=>mkSt [(3, .arr 19 D.length),(4, .sl (rs.map rgV)),(5,I ((D.length:Int)+1))] [] [(7,⟨0, .frz,23,rs.map rgV⟩),(19,⟨D.length, .own,84,((d::D).flatten).map vcV⟩)]
def gC0:∀ {E:List Rg},(∀r∈E,r.length<=1000000)->E.flatten.length<=1000000*E.length
 | [],_=>Af
 |e::E,h=>by
  have b:=h e Af;have c:=gC0 (E:=E) (λr a=>h r (by simp[a]));grind
def fG7(s:Sh)(b:gV s)(u:s.holes.length<=6):Sp 220 [shV s] (.own 84 ((rV s).map vcV)):=by
 refine zsp func220 ?_;have c:=fE1 s b;have a:∀r∈rings s,r.length<=1000000:=λr n=>b.mem n;have i:rV s=(rings s).flatten:=rfl;have hne:rings s≠ [] :=AB;have m:(rings s).length<=7:=FC;rw[i];generalize rings s=A at*;have g:(A.map rgV).length=A.length:=Af;repeat' ((conv=>whnf);first|refine zc c ?_|refine zS ?_|fail)
 refine aU (A:=List Rg) (B:=List Rg) (λD R=>rveSt A D) (λD R=>A=D++R) (λD R=>R.length) [] A ?_ rfl (λD R hp=>?_);exact Lr;have hp:A=D++R:=hp;cases R with
 |nil=>exact JH
 |cons r R=>
  have hlen:=aO hp;have o:=a r Ae;have j:=gC0 (E:=D) (λx t=>a x (by rw[hp];simp[t]));have q:(r.map vcV).length=r.length:=Af;cases D with
  |nil=>
   have f:([] :List Rg).length=0:=rfl;repeat' ((conv=>whnf);first|omega|refine aB (l:=A) Aa ?_|refine aF (l:=A) (A:=[]) (x:=r) (B:=R) hp Aa ?_|refine gX (Q9 rfl) (aM5 r) (by show(r.map vcV).length<=1000000000;omega) ?_|refine zS ?_|refine zT ?_ ?_<;>intro _|fail)
   all_goals conv=>whnf
   refine⟨([r],R),?_,hp,Af⟩;show Le T _ (mkSt [(3, .arr 19 0),(4, .sl (A.map rgV)),(5,I (0+1))] [] [(7,⟨0, .frz,23,A.map rgV⟩),(19,⟨0, .own,84,([r].flatten).map vcV⟩)]);rw[show [r].flatten=r from Af];exact zj
  |cons d D=>
   have f:(d::D).length=D.length+1:=rfl;repeat' ((conv=>whnf);first|omega|refine aB (l:=A) Aa ?_|refine aF (l:=A) (A:=d::D) (x:=r) (B:=R) hp Aa ?_|refine iH rfl (.inl rfl) rfl (Q9 rfl) (aM5 r) (by show(((d::D).flatten).map vcV).length+(r.map vcV).length<=1000000000;rw[SG];omega) ?_|refine zS ?_|refine zT ?_ ?_<;>intro _|fail)
   all_goals conv=>whnf
   refine⟨(d::(D++[r]),R),?_,Ae,Af⟩;show Le T _ (mkSt [(3, .arr 19 (D++[r]).length),(4, .sl (A.map rgV)),(5,I (((D++[r]).length:Int)+1))] [] [(7,⟨0, .frz,23,A.map rgV⟩),(19,⟨(D++[r]).length, .own,84,((d::(D++[r])).flatten).map vcV⟩)]);rw[show((d::(D++[r])).flatten).map vcV=((d::D).flatten).map vcV++r.map vcV from Af,Q5,SA];exact zj
def fT8{s:Sh}(h:bG s):∀e∈aC0 s,bI e:=λe a=>by
 unfold aC0 at a;obtain⟨r,b,q⟩:=Vh.1 a;exact jO (h.2.1 r b).2.2.1 q
theorem fI8{s:Sh}(h:bG s):∀v∈rV s,Sm4 v:=λv hv=>by
 unfold rV at hv;obtain⟨r,a,q⟩:=List.mem_flatten.1 hv;exact vN (h.2.1 r a).2.2.1 q
def fP1(a b:Sh)(d:bG a)(e:bG b):Sp 218 [shV a,shV b] (DB (rJ a b [2])):=by
 refine zsp func218 ?_;have g:=fK8 a (iT d) d.1;have i:=fK8 b (iT e) e.1;have q:=fT8 d;have r:=fT8 e;have t:=bV2 (iT d) d.1;have u:=bV2 (iT e) e.1;have hr:rJ a b [2]↔∃x∈aC0 a,∃y∈aC0 b,dG x y=2:=by unfold rJ;simp only[S9]
 generalize rJ a b [2] =P at*;generalize aC0 a=A at*;generalize aC0 b=B at*;have j:(A.map sgV).length=A.length:=Af;have n:(B.map sgV).length=B.length:=Af;repeat' ((conv=>whnf);first|refine zc g ?_|refine zc i ?_|refine zS ?_|fail)
 refine aU (A:=List Sg) (B:=List Sg) (λD R=>mkSt [(5, .sl (A.map sgV)),(6, .sl (B.map sgV)),(7,I D.length)] [] []) (λD R=>A=D++R/\∀x∈D,∀y∈B,dG x y≠2) (λD R=>R.length) [] A ?_ ⟨rfl,Af⟩ (λD R hp=>?_);exact MJ;obtain⟨hp,hD⟩:=hp;cases R with
 |nil=>exact Kw
 |cons x R=>
  have hlen:=aO hp;have s:=q x Ae;repeat' ((conv=>whnf);first|omega|refine zS ?_|refine zT ?_ ?_<;>intro _|fail)
  refine aU (A:=List Sg) (B:=List Sg) (λE S=>mkSt [(5, .sl (A.map sgV)),(6, .sl (B.map sgV)),(7,I D.length),(8,I E.length)] [] []) (λE S=>B=E++S/\∀y∈E,dG x y≠2) (λE S=>S.length) [] B ?_ ⟨rfl,Af⟩ (λE S hq=>?_);exact zj;obtain⟨hq,hE⟩:=hq;cases S with
  |nil=>exact NF
  |cons y S=>
   have hlen2:=aO hq;have o:=fI7 x y s (r y Ap);have f:dG x y=2->P:=λh=>hr.2 ⟨x,Ae,y,Ap,h⟩;have c:dG x y≠2->∀z∈E++[y],dG x z≠2:=λh z hz=>ML;generalize dG x y=m at*;repeat' ((conv=>whnf);first|omega|refine aB (l:=A) Aa ?_|refine aB (l:=B) Aa ?_|refine aF (l:=A) (A:=D) (x:=x) (B:=R) hp Aa ?_|refine aF (l:=B) (A:=E) (x:=y) (B:=S) hq Aa ?_|refine zc o ?_|refine zS ?_|refine zT ?_ ?_<;>intro _|fail)
   all_goals conv=>whnf
   all_goals first
    |exact aA (fE (f Ag))
    |skip
   refine⟨(E++[y],S),?_,⟨Ap,c Ag⟩,Af⟩;exact NQ
def gA9{r:Rg}(a:3<=r.length){k:Nat}(b:k<r.length):(bF r).drop k=aJ4 r k::(bF r).drop (k+1):=by
 have c:=dT0 (r:=r) Aa;rw[List.drop_eq_getElem_cons Aa];congr 1;have:=fH0 a b;simp_all
def fK7(r:Rg)(v:Vc)(m:dM r)(hv:Sm4 v):Sp 308 [rgV r,vcV v] (I (fJ r v)):=by
 refine zsp func308 ?_;have z:=m.1;have K:=m.2.1;have M:(r.map vcV).length=r.length:=Af;have C:=fZ2 m hv;have L:=dT0 (r:=r) Aa;have o:=λk (j:k<r.length)=>gA9 z j;have s:∀k,k<r.length->bI (aJ4 r k):=λk j=>jO m.2.2.1 ((bC9 z).2 ⟨k,j,rfl⟩);have g:(bF r).drop r.length=[] :=UW Aa;generalize fJ r v=A at*;generalize bF r=E at*;repeat' ((conv=>whnf);first|refine zS ?_|fail)
 refine aU (A:=Nat) (B:=Bool) (λk ins=>mkSt [(0,rgV r),(3, .box 3 0),(5,B ins),(6,I k)] [(3,(vcV v).cells)] []) (λk ins=>k<=r.length/\A=lU (v.1,v.2,1) (E.drop k) ins) (λk ins=>r.length-k) 0 false ?_ ⟨Aa,C⟩ (λk ins O=>?_);exact zj;clear C;obtain⟨j,hA⟩:=O;by_cases f:k<r.length;rotate_left;have e:k=r.length:=by omega
 subst e;rw[g,qB]at hA;exact PI;have heo:=s k f;rw[o k f]at hA;have N:(k+1)% r.length<r.length:=TM _ Aa;obtain⟨D,F⟩:=jP.1 heo;have G:=fG4 (aJ4 r k).1 (aJ4 r k).2 v
 have b:eX (aJ4 r k) v↔Bb (aJ4 r k) v/\kR (aJ4 r k).1 (aJ4 r k).2 v=0:=by
  rw[gZ heo];constructor;rintro⟨n,i⟩;refine⟨n,?_⟩;rw[zH D F hv,i];rfl;rintro⟨n,i⟩;refine⟨n,?_⟩;by_cases q:X (dif (aJ4 r k).2 (aJ4 r k).1) (dif v (aJ4 r k).1)=0;exact q;rw[zH D F hv]at i;exact absurd i (tC.2 q)
 have R:eX (aJ4 r k) v->A=1:=λq=>by rw[hA];exact oP ((cC3 hv heo).2 q)
 have x:¬eX (aJ4 r k) v->rayC (aJ4 r k) v (kR (aJ4 r k).1 (aJ4 r k).2 v)->A=lU (v.1,v.2,1) (E.drop (k+1)) (!ins):=λq1 q2=>N7;have y:¬eX (aJ4 r k) v->¬rayC (aJ4 r k) v (kR (aJ4 r k).1 (aJ4 r k).2 v)->A=lU (v.1,v.2,1) (E.drop (k+1)) ins:=λq1 q2=>Nb;have H:(aJ4 r k).1=r.getD k z0:=rfl;have J:(aJ4 r k).2=r.getD ((k+1)% r.length) z0:=rfl;unfold rayC at x y;unfold Bb at b;rw[H,J]at G b x y;generalize eX (aJ4 r k) v=P at*;generalize u:r.getD k z0=Q at*;generalize w:r.getD ((k+1)% r.length) z0=vb at*;generalize kR Q vb v=t at*;repeat' ((conv=>whnf);first|omega|refine cC0 [(0,999),(6,999),(16,999),(17,999),(18,999),(20,999),(23,999),(25,999),(26,999),(7,7),(8,8)] Ad Ac ?_|refine uM Aa ?_|refine aB (l:=r) BL ?_|refine aB (l:=r) Aa ?_|(refine sW (k:=(k+1)% r.length) (kS Aa) N ?_;rw[w])|(refine aU3 (k:=k) Aa f ?_;rw[u])|refine zc G ?_|refine zS ?_|refine zT ?_ ?_<;>intro _|fail)
 all_goals conv=>whnf
 all_goals (try simp only[lH,mG]at*)
 all_goals first
  |exact aG (R (b.2 ⟨⟨Aa,Aa,Aa,Aa⟩,Aa⟩)).symm
  |skip
 all_goals (have c:¬P:=λq=>by have:=b.1 q;omega)
 all_goals first
  |(have d:=x c Aa)
  |(have d:=y c Aa)
 all_goals first
  |refine⟨(k+1, !ins),?_,⟨Aa,d⟩,Aa⟩
  |refine⟨(k+1,ins),?_,⟨Aa,d⟩,Aa⟩
 all_goals (refine dV ?_ ?_ ?_ ?_)
 all_goals repeat' (first|exact trivial|refine And.intro ?_ ?_|with_reducible rfl|exact(λh=>Ah)|exact Sr _|omega|exact rfl)
end Go.Proofs.Led
