/-
  The reference's canonical shapes, walked.
-/
import Derived.Test.YtkhhdojgbkophaaGreatQB20
set_option linter.unusedVariables false
set_option linter.unusedSimpArgs false
set_option maxRecDepth 100000
set_option maxHeartbeats 8000000
noncomputable section
namespace Go.Proofs.Led
open Go Go.Proofs Go.Ab
theorem gH4{α:Type}(f:α->V)(O:List α)(k:Nat)(hk:k<=O.length):(O.drop k++O.take k).map f=List.drop (k:Int).toNat (List.take ((O.map f).length:Int).toNat (O.map f))++List.take (k:Int).toNat (O.map f):=by
 rw[Int.toNat_natCast,Int.toNat_natCast,List.take_length,List.map_append,List.map_take,List.map_drop]
theorem fM7(r:Rg)(hl:r.length<=1000000)(hne:r≠ []):Sp 311 [rgV r] (.own 76 ((wL r).map vcV)):=by
 refine zsp Tryz.func311 ?_;have hll:(r.map vcV).length=r.length:=Af;have hpos:0<r.length:=by cases r with|nil=>exact absurd rfl hne|cons x l=>simp
 repeat' ((conv=>whnf);first|refine zS ?_|fail)
 refine aU (A:=Nat) (B:=Nat) (fun i k=>mkSt [(0,rgV r),(3,I k),(4,I i)] [] []) (fun i k=>i<=r.length/\k<r.length/\(k<i\/k=0)/\(∀j,j<i->¬kF (r.getD j z0) (r.getD k z0))/\∀j,j<k->r.getD j z0≠r.getD k z0) (fun i k=>r.length-i) 0 0 ?_ ⟨Aa,hpos, .inr rfl,fun j hj=>Aa,fun j hj=>Aa⟩ (fun i k hp=>?_)
 ·exact zj
 obtain⟨hi,hk,hki,hmin,hfirst⟩:=hp;by_cases hir:i<r.length
 ·have g1:=fJ0 (r.getD i z0) (r.getD k z0)
  repeat' ((conv=>whnf);first|(exfalso;omega)|refine aB (l:=r) Aa ?_|refine aU3 (k:=i) Aa hir ?_|refine aU3 (k:=k) Aa hk ?_|refine zc g1 ?_|refine zS ?_|refine zT ?_ ?_<;>intro _|fail)
  all_goals conv=>whnf
  ·have hv:kF (r.getD i z0) (r.getD k z0):=by assumption
   refine⟨(i+1,i),?_,⟨Aa,hir, .inl Aa,fun j hj=>?_,fun j hj q=>?_⟩,Aa⟩
   ·exact zj
   ·by_cases e:j=i
    ·subst e;exact fun q=>fJ8 q q
    ·exact fun q=>hmin j Aa (fD9 q hv)
   ·exact hmin j hj (by rw[q];exact hv)
  ·have hv:¬kF (r.getD i z0) (r.getD k z0):=by assumption
   refine⟨(i+1,k),?_,⟨Aa,hk,Aa,fun j hj=>?_,hfirst⟩,Aa⟩
   ·exact zj
   ·by_cases e:j=i
    ·subst e;exact hv
    ·exact hmin j Aa
 ·have hir':i=r.length:=by omega
  subst hir';have hb:=(fJ7 ⟨hk,hmin,hfirst⟩).2;rw[hb,gH4 vcV r k Aa];have hc1:(List.take (k:Int).toNat (r.map vcV)).length=k:=by rw[Int.toNat_natCast,List.length_take];omega
  repeat' ((conv=>whnf);first|(exfalso;omega)|refine cC0 [(0,999),(3,999)] Ae Ad ?_|refine fU ⟨Aa,Aa,Aa, .inr (aM5 r)⟩ ?_|refine iH rfl (.inl rfl) rfl (of_decide_eq_true rfl) (fW4 r _ _) (by show 0+(List.drop _ (List.take _ (r.map vcV))).length<=1000000000;rw[List.length_drop,List.length_take];omega) ?_|refine iH rfl (.inl rfl) rfl (of_decide_eq_true rfl) (fQ7 r _) (by show(List.drop _ (List.take _ (r.map vcV))).length+(List.take _ (r.map vcV)).length<=1000000000;rw[List.length_drop,List.length_take,List.length_take];omega) ?_|refine zS ?_|refine zT ?_ ?_<;>intro _|fail)
  all_goals conv=>whnf
  exact RV
def srtC(s:Sh)(X:List Rg):List V:=match X with
 | [] => [rgV (wL s.outer),nilV]
 |x::X=> [rgV (wL s.outer), .sl ((x::X).map rgV)]
def fQ8(s:Sh)(n:Nat)(X:List Rg):St:=mkSt [(1, .box 1 0),(2, .box 2 0),(3, .box 3 0),(4,I n)] [(1,(shV s).cells),(2,[nilV,nilV]),(3,srtC s X)] []
def gG4(s:Sh)(n:Nat)(X:List Rg)(h:Rg)(k:Nat):St:=mkSt [(1, .box 1 0),(2, .box 2 0),(3, .box 3 0),(4,I n),(5,rgV h),(6,I k)] [(1,(shV s).cells),(2,[nilV,nilV]),(3,srtC s X)] []
theorem gC2{s:Sh}{X:List Rg}(h:X≠ []):srtC s X=[rgV (wL s.outer), .sl (X.map rgV)] :=by
 cases X with
 |nil=>exact absurd rfl h
 |cons x X=>rfl
theorem fO4(l:List Rg)(n:Nat):∀y∈(l.map rgV).take n,y.cells.length=1:=fun y hy=>fM3 l y (List.mem_of_mem_take hy)
theorem gE3(l:List Rg)(n m:Nat):∀y∈((l.map rgV).take m).drop n,y.cells.length=1:=fun y hy=>fM3 l y (List.mem_of_mem_take (List.mem_of_mem_drop hy))
theorem gF9(x:Rg)(l:List Rg):(insH x l).length=l.length+1:=by
 unfold insH;rw[List.length_append,List.length_cons,List.length_take,List.length_drop];omega
theorem gF7(l:List Rg):(srtH l).length=l.length:=by
 have key:∀(l o:List Rg),(l.foldl (fun o x=>insH x o) o).length=o.length+l.length:=by
  intro l
  induction l with
  |nil=>intro o;simp
  |cons x l ih=>
   intro o;rw[List.foldl_cons,ih,gF9,List.length_cons];omega
 have:=key l [];simpa [srtH]using this
theorem fU2(x:Rg)(l:List Rg):fA x l<=l.length:=by
 unfold fA;exact(List.takeWhile_sublist _).length_le
theorem gD7{x:Rg}{l:List Rg}{i:Nat}(hi:i<fA x l)(h:i<l.length):kF (keyR l[i]) (keyR x):=by
 obtain⟨h1,h2⟩:=fM8 (fun y=>decB (kF (keyR y) (keyR x))) l
 have hm:l[i]∈l.takeWhile (fun y=>decB (kF (keyR y) (keyR x))):=by
  rw[<-h1];refine List.mem_iff_getElem.2 ⟨i,by rw[List.length_take];unfold fA at hi;omega,by rw[List.getElem_take]⟩
 exact dH.1 (fU7 (p:=fun y=>decB (kF (keyR y) (keyR x))) hm)
theorem gD5{x:Rg}{l:List Rg}{y:Rg}(h:l[fA x l]? =some y):¬kF (keyR y) (keyR x):=by
 obtain⟨h1,h2⟩:=fM8 (fun y=>decB (kF (keyR y) (keyR x))) l;have:=h2 y (by rw[List.getElem?_drop,Nat.add_zero];exact h)
 exact dW.1 this
theorem gG7{z:Rg}:∀ {l:List Rg},z∈srtH l->z∈l:=by
 have key:∀(l o:List Rg),z∈l.foldl (fun o x=>insH x o) o->z∈o\/z∈l:=by
  intro l
  induction l with
  |nil=>intro o h;exact .inl h
  |cons x l ih=>
   intro o h;rcases ih _ h with h|h
   ·rcases fW9.1 h with h|h
    ·exact .inr Ju
    ·exact .inl h
   ·exact .inr Ju
 intro l h;rcases key l [] h with h|h
 ·cases h
 ·exact h
theorem fS7{r:Rg}:(wL r).length=r.length:=by
 by_cases h:r=[]
 ·subst h;rfl
 ·obtain⟨k,hk⟩:=fY4 h
  rw[(fJ7 hk).2,List.length_append,List.length_drop,List.length_take];have:=hk.1;omega
theorem fQ5(s:Sh)(hs:gV s)(h6:s.holes.length<=1000)(hne:∀r∈rings s,r≠ []):Sp 260 [shV s] (shV (fP2 s)):=by
 refine zsp Tryz.func260 ?_;have hml:(s.holes.map rgV).length=s.holes.length:=Af;have g0:=fM7 s.outer hs.1 (hne _ AA)
 have hX:fP2 s=⟨wL s.outer,srtH (s.holes.map wL)⟩:=rfl
 repeat' ((conv=>whnf);first|refine zc g0 ?_|refine zS ?_|fail)
 refine aU (A:=List Rg) (B:=List Rg) (fun D R=>fQ8 s D.length (srtH (D.map wL))) (fun D R=>s.holes=D++R) (fun D R=>R.length) [] s.holes ?_ rfl (fun D R hp=>?_)
 ·show Le T _ (fQ8 s 0 [])
  refine Le.trans (fB (k:=9) rfl (.inl rfl)) ?_;exact zj
 cases R with
 |nil=>
  have hlen:s.holes.length=D.length:=Dz;have e:s.holes=D:=Dz
  rw[hX,e];generalize srtH (D.map wL)=X at*
  cases X with
  |nil=>exact KT
  |cons x X=>exact KT
 |cons h R=>
  have hlen:=aO hp;have hhm:h∈s.holes:=Ac
  have hhn:h≠ [] :=hne h (by unfold rings;simp[hhm])
  have gb:=fM7 h (hs.2.2 h hhm) hhn;have hxl:=gF7 (D.map wL)
  rw[List.length_map]at hxl;have hsn:srtH ((D++[h]).map wL)=insH (wL h) (srtH (D.map wL)):=by rw[List.map_append,List.map_cons,List.map_nil,fK1]
  have hxne:∀x∈srtH (D.map wL),0<x.length:=fun x hx=>by
   obtain⟨r,hr,rfl⟩:=List.mem_map.1 (gG7 hx);have:r≠ [] :=hne r (by unfold rings;rw[hp];simp[hr])
   rw[fS7]
   cases r with
   |nil=>exact absurd rfl this
   |cons a l=>simp
  have hbn:0< (wL h).length:=by
   rw[fS7]
   cases h with
   |nil=>exact absurd rfl hhn
   |cons a l=>simp
  generalize wL h=x at*;generalize srtH (D.map wL)=X at*
  have hstep:∀k,k<=fA x X->(X.length<=k\/¬kF ((X.getD k []).getD 0 z0) (x.getD 0 z0))->k=fA x X:=fun k hk hq=>by
   rcases Nat.lt_or_ge k (fA x X)with hlt|hge
   ·have hal:=fU2 x X
    have:=gD7 hlt Aa;rcases hq with hq|hq
    ·omega
    ·have e:X.getD k [] =X[k] :=by rw[List.getD_eq_getElem?_getD,List.getElem?_eq_getElem (show k<X.length from Aa)];rfl
     rw[e]at hq;exact absurd this hq
   ·omega
  have hgo:∀k,k<=fA x X->k<X.length->kF ((X.getD k []).getD 0 z0) (x.getD 0 z0)->k<fA x X:=fun k hk hl hv=>by
   rcases Nat.lt_or_ge k (fA x X)with hlt|hge
   ·exact hlt
   ·have e:k=fA x X:=by omega
    have h1:X[fA x X]? =some (X.getD k []):=by rw[<-e,List.getD_eq_getElem?_getD,List.getElem?_eq_getElem hl];rfl
    exact absurd hv (gD5 h1)
  have hins:∀k,k=fA x X->insH x X=X.take k++x::X.drop k:=fun k hk=>by rw[hk];rfl
  have hXm:(X.map rgV).length=X.length:=Af;have hal:=fU2 x X
  cases X with
  |nil=>
   have h0:([] :List Rg).length=0:=rfl
   repeat' ((conv=>whnf);first|(exfalso;omega)|refine aB (l:=s.holes) Aa ?_|refine aF (l:=s.holes) (A:=D) (x:=h) (B:=R) hp Aa ?_|refine zc gb ?_|refine zS ?_|refine zl (fun hlt=>?_) (fun hlt=>?_))
   refine lD (A:=Nat) (fun k=>gG4 s D.length [] x k) (fun k=>k<=fA x []) (fun k=>fA x []-k) 0 ?_ Aa (fun k hk=>?_)
   ·refine Le.trans (fB (k:=23) rfl (.inl rfl)) ?_
    show Le T _ (mkSt [(1, .box 1 0),(2, .box 2 0),(3, .box 3 0),(4,I D.length),(5,rgV x),(6,I 0)] [(1,(shV s).cells),(2,[nilV,nilV]),(3,[rgV (wL s.outer),nilV])] []);exact zj
   have hk0:k=0:=by have:fA x [] =0:=rfl;omega
   subst hk0;have hi:insH x [] =[x] :=rfl
   repeat' ((conv=>whnf);first|(exfalso;omega)|refine cC0 [(3,3),(45,3),(53,3),(58,3)] Ae Ad ?_|refine iH rfl (.inl rfl) rfl (of_decide_eq_true rfl) (fun y hy=>by cases hy) (show 0+0<=1000000000 from Aa) ?_|refine iH rfl (.inl rfl) rfl (of_decide_eq_true rfl) (dA rfl) (show 0+1<=1000000000 from Aa) ?_|refine iH rfl (.inl rfl) rfl (of_decide_eq_true rfl) (fun y hy=>by cases hy) (show 1+0<=1000000000 from Aa) ?_|refine fU ⟨Aa,Aa,Aa, .inl rfl⟩ ?_|refine zS ?_|refine zl (fun hlt=>?_) (fun hlt=>?_))
   all_goals conv=>whnf
   refine⟨(D++[h],R),?_,Ac,Af⟩;show Le T _ (fQ8 s (D++[h]).length (srtH ((D++[h]).map wL)));rw[hsn,hi,List.length_append,List.length_singleton];refine Le.trans (fB (k:=44) rfl (.inl rfl)) ?_;show Le T _ (mkSt [(1, .box 1 0),(2, .box 2 0),(3, .box 3 0),(4,I ((D.length:Int)+1))] [(1,(shV s).cells),(2,[nilV,nilV]),(3,[rgV (wL s.outer), .sl [rgV x]])] []);exact zj
  |cons y Y=>
   have hY:(y::Y).length=Y.length+1:=rfl
   repeat' ((conv=>whnf);first|(exfalso;omega)|refine aB (l:=s.holes) Aa ?_|refine aF (l:=s.holes) (A:=D) (x:=h) (B:=R) hp Aa ?_|refine zc gb ?_|refine zS ?_|refine zl (fun hlt=>?_) (fun hlt=>?_))
   refine lD (A:=Nat) (fun k=>gG4 s D.length (y::Y) x k) (fun k=>k<=fA x (y::Y)) (fun k=>fA x (y::Y)-k) 0 ?_ Aa (fun k hk=>?_)
   ·refine Le.trans (fB (k:=23) rfl (.inl rfl)) ?_
    show Le T _ (mkSt [(1, .box 1 0),(2, .box 2 0),(3, .box 3 0),(4,I D.length),(5,rgV x),(6,I 0)] [(1,(shV s).cells),(2,[nilV,nilV]),(3,[rgV (wL s.outer), .sl ((y::Y).map rgV)])] []);exact zj
   have gl:=fJ0 (((y::Y).getD k []).getD 0 z0) (x.getD 0 z0);have hst:=hstep k hk
   have hg:=hgo k hk;have hkn:k< (y::Y).length->0< ((y::Y).getD k []).length:=fun q=>hxne _ (getD_mem q)
   have hc1:∀y'∈(List.map rgV (y::Y)).take k,y'.cells.length=1:=fO4 (y::Y) k;have hxm:(x.map vcV).length=x.length:=Af
   have hym:((y::Y).map rgV).length=Y.length+1:=Af;have hgm:(((y::Y).getD k []).map vcV).length=((y::Y).getD k []).length:=Af
   repeat' ((conv=>whnf);first|refine cC0 [(3,3),(45,3),(53,3),(58,3)] Ae Ad ?_|refine aB (l:=x) Aa ?_|refine aB (l:=(y::Y).getD k []) (by have:=hkn (by omega);omega) ?_|refine aB (l:=y::Y) Aa ?_|refine eG2 (l:=y::Y) (k:=k) Aa Aa ?_|refine aU3 (r:=x) (k:=0) rfl hbn ?_|refine aU3 (r:=(y::Y).getD k []) (k:=0) rfl (hkn Aa) ?_|refine zc gl ?_|refine iH rfl (.inl rfl) rfl (of_decide_eq_true rfl) (fO4 (y::Y) _) (by show 0+(List.take _ ((y::Y).map rgV)).length<=1000000000;rw[List.length_take];omega) ?_|refine iH rfl (.inl rfl) rfl (of_decide_eq_true rfl) (dA rfl) (by show(List.take _ ((y::Y).map rgV)).length+1<=1000000000;rw[List.length_take];omega) ?_|refine iH rfl (.inl rfl) rfl (of_decide_eq_true rfl) (gE3 (y::Y) _ _) (by show(List.take _ ((y::Y).map rgV)++[_]).length+(List.drop _ (List.take _ ((y::Y).map rgV))).length<=1000000000;rw[List.length_append,List.length_take,List.length_singleton,List.length_drop,List.length_take];omega) ?_|refine fU ⟨Aa,Aa,Aa, .inr (fM3 (y::Y))⟩ ?_|refine zS ?_|refine zd (fun hd=>?_) (fun hd=>?_)|refine zl (fun hlt=>?_) (fun hlt=>?_))
   all_goals conv=>whnf
   ·have hv:kF (((y::Y).getD k []).getD 0 z0) (x.getD 0 z0):=by assumption
    have:=hg Aa hv;refine⟨k+1,?_,Aa,Aa⟩;show Le T _ (mkSt [(1, .box 1 0),(2, .box 2 0),(3, .box 3 0),(4,I D.length),(5,rgV x),(6,I ((k:Int)+1))] [(1,(shV s).cells),(2,[nilV,nilV]),(3,[rgV (wL s.outer), .sl ((y::Y).map rgV)])] []);exact zj
   ·have hk':=hst (.inr Ag)
    exact Qw
   ·have hk':=hst (.inl Aa)
    exact Qw
theorem fM2(s:Sh)(hs:gV s):Sp 209 [shV s] (shV (qO s)):=by
 refine zsp Tryz.func209 ?_;have g0:=aD7 s hs;by_cases h:bG s;rotate_left
 ·rw[dbF h]at g0
  rw[bH5 h];exact QD
 rw[dbT h]at g0;have hne:∀r∈rings s,r≠ [] :=fun r hr e=>by have:=(h.2.1 r hr).1;rw[e]at this;simp at this
 have g1:=fQ5 s hs EU hne;rw[fV8 h]at g1;generalize qO s=c at*;exact QO
theorem fZ5(a b:Rg)(ha:a.length<=1000000)(hb:b.length<=1000000):Sp 310 [rgV a,rgV b] (DB (a=b)):=by
 refine zsp Tryz.func310 ?_;have hma:(a.map vcV).length=a.length:=Af;have hmb:(b.map vcV).length=b.length:=Af
 generalize hP:(a=b)=P;have hr:P↔a=b:=Ib;clear hP
 repeat' ((conv=>whnf);first|refine zS ?_|refine zT ?_ ?_<;>intro _|fail)
 all_goals conv=>whnf
 all_goals first
  |exact aA (aC (fun h=>BL))
  |skip
 refine oU (A:=List Vc) (B:=List Vc) (C:=List Vc) (fun D R S=>mkSt [(0,rgV a),(1,rgV b),(5,I D.length)] [] []) (fun D R S=>a=D++R/\b=D++S) (fun D R S=>R.length) [] a b ?_ ⟨rfl,rfl⟩ (fun D R S hp=>?_)
 ·exact zj
 obtain⟨hp,hq⟩:=hp
 cases R with
 |nil=>exact JB
 |cons x R=>
  cases S with
  |nil=>exact LW
  |cons y S=>
   have hlen:=aO hp;have hlen2:=aO hq
   have hne:x≠y->¬P:=fun h hP=>JV
   repeat' ((conv=>whnf);first|(exfalso;omega)|refine aB (l:=a) Aa ?_|refine aB (l:=b) Aa ?_|refine aF (l:=a) (A:=D) (x:=x) (B:=R) hp Aa ?_|refine aF (l:=b) (A:=D) (x:=y) (B:=S) hq Aa ?_|refine aT1 ?_|refine aB4 (fun heq=>?_) (fun heq=>?_)|refine zS ?_|refine zT ?_ ?_<;>intro _|fail)
   all_goals conv=>whnf
   all_goals first
    |exact aA (aC (hne Bg))
    |skip
   exact Qk
theorem fW7(a b:Rg)(ha:a.length<=1000000)(hb:b.length<=1000000):Sp 259 [rgV a,rgV b] (DB (a=b)):=by
 refine zsp Tryz.func259 ?_;have h1:=fZ5 a b ha hb;generalize (a=b)=P at*
 repeat' ((conv=>whnf);first|refine zc h1 ?_|refine zS ?_|fail)
 all_goals conv=>whnf
 exact aA rfl
theorem fV6(a b:Sh)(ha:gV a)(hb:gV b):Sp 208 [shV a,shV b] (DB (a=b)):=by
 refine zsp Tryz.func208 ?_;have ga:=fE1 a ha;have gb:=fE1 b hb
 have hsa:∀r∈rings a,r.length<=1000000:=fun r hr=>ha.mem hr;have hsb:∀r∈rings b,r.length<=1000000:=fun r hr=>hb.mem hr
 have hla:(rings a).length<=1000001:=by have:=ha.2.1;unfold rings;simp;omega
 have hlb:(rings b).length<=1000001:=by have:=hb.2.1;unfold rings;simp;omega
 have hr:(a=b)↔rings a=rings b:=gE1.symm;generalize (a=b)=P at*;generalize rings a=A at*;generalize rings b=B at*;have hAm:(A.map rgV).length=A.length:=Af
 have hBm:(B.map rgV).length=B.length:=Af
 repeat' ((conv=>whnf);first|refine zc ga ?_|refine zc gb ?_|refine zS ?_|refine ze (fun heq=>?_) (fun heq=>?_))
 ·have hAB:A.length=B.length:=by
   have q:((A.map rgV).length:Int)=((B.map rgV).length:Int):=heq;omega
  clear heq;refine oU (A:=List Rg) (B:=List Rg) (C:=List Rg) (fun D R S=>mkSt [(5, .sl (A.map rgV)),(6, .sl (B.map rgV)),(7,I D.length)] [] []) (fun D R S=>A=D++R/\B=D++S) (fun D R S=>R.length) [] A B ?_ ⟨rfl,rfl⟩ (fun D R S hp=>?_)
  ·refine Le.trans (Le.trans (fB (k:=9) rfl (.inl rfl)) (fB (k:=11) rfl (.inl rfl))) ?_
   exact zj
  obtain⟨hp,hq⟩:=hp
  cases R with
  |nil=>
   have hlen:A.length=D.length:=Ac
   have hS:S=[] :=by
    have h1:B.length=D.length+S.length:=Am;exact List.length_eq_zero_iff.1 Aa
   subst hS;have hab:P:=hr.2 Jg;clear hp hq hr
   repeat' ((conv=>whnf);first|(exfalso;omega)|refine zS ?_|refine zl (fun hlt=>?_) (fun hlt=>?_))
   all_goals conv=>whnf
   exact aA (fE hab)
  |cons x R=>
   cases S with
   |nil=>
    have h1:B.length=D.length:=Am;have h2:=aO hp
    exfalso;omega
   |cons y S=>
    have hlen:=aO hp;have hlen2:=aO hq
    have hne:¬x=y->¬P:=fun h hP=>JV;have gs:=fW7 x y (hsa x Ac) (hsb y Am)
    have hnx:x=y->B=D++[x] ++S:=fun h=>by rw[hq,h];simp
    generalize (x=y)=e at*
    repeat' ((conv=>whnf);first|(exfalso;omega)|refine aB (l:=A) Aa ?_|refine aB (l:=B) Aa ?_|refine aF (l:=A) (A:=D) (x:=x) (B:=R) hp Aa ?_|refine aF (l:=B) (A:=D) (x:=y) (B:=S) hq Aa ?_|refine zc gs ?_|refine zS ?_|refine zd (fun hd=>?_) (fun hd=>?_)|refine zl (fun hlt=>?_) (fun hlt=>?_))
    all_goals conv=>whnf
    all_goals first
     |exact aA (aC (hne Ag))
     |skip
    refine⟨(D++[x],R,S),?_,⟨Ac,hnx Ag⟩,Af⟩;exact P6
 ·all_goals conv=>whnf
  refine aA (aC (fun h=>heq ?_));show((A.map rgV).length:Int)=((B.map rgV).length:Int);rw[hr.1 h]
theorem fH3(lo hi:Vc):Sp 255 [vcV lo,vcV hi] (shV (sV lo hi)):=by
 refine zsp Tryz.func255 ?_;have h1:=fP lo 2000;have h2:=fP hi 2000
 have e1:=eS0 (lo:=lo) (hi:=hi);have e2:=eR9 (lo:=lo) (hi:=hi)
 generalize sV lo hi=A at*;generalize within lo 2000=p1 at*;generalize within hi 2000=p2 at*
 repeat' ((conv=>whnf);first|refine zc h1 ?_|refine zc h2 ?_|refine zS ?_|refine zT ?_ ?_<;>intro _|fail)
 all_goals conv=>whnf
 all_goals first
  |(rw[e1 BN];refine⟨?_,rfl,fun rs h=>V.noConfusion h⟩;(repeat' (first|exact trivial|refine And.intro ?_ ?_|with_reducible rfl|exact(fun h=>Ah)|exact rfl));done)
  |(rw[e2 (by rintro(q|q|q|q)<;>first|omega|contradiction)];refine⟨?_,rfl,fun rs h=>V.noConfusion h⟩;(repeat' (first|exact trivial|refine And.intro ?_ ?_|with_reducible rfl|exact(fun h=>Ah)|exact rfl));done)
theorem fV1(l:List Vc)(hl:l.length<=1000000):Sp 353 [.sl (l.map vcV)] (.tup [bxV (aC7 l).1, .lit (.bool (aC7 l).2)]):=by
 refine zsp Tryz.func353 ?_;have hll:(l.map vcV).length=l.length:=Af
 cases hl0:l with
 |nil=>exact NE
 |cons x r=>
  rw[<-hl0];have hlen:l.length=r.length+1:=by rw[hl0];rfl
  have hb:aC7 l=(l.foldl gU (x,x),true):=by rw[hl0];rfl
  repeat' ((conv=>whnf);first|(exfalso;omega)|refine cC0 [(0,999),(10,999),(11,999),(13,999),(14,999),(4,4)] Ae Ad ?_|refine aB (l:=l) Aa ?_|refine aF (l:=l) (A:=[]) (x:=x) (B:=r) hl0 rfl ?_|refine zS ?_|refine ze (fun heq=>?_) (fun heq=>?_))
  refine aU (A:=List Vc) (B:=List Vc) (fun D R=>mkSt [(0, .sl (l.map vcV)),(2, .box 2 0),(4, .box 4 0),(5,I D.length)] [(2,[I 0,I 0,I 0,I 0]),(4,(bxV (D.foldl gU (x,x))).cells)] [])
   (fun D R=>l=D++R) (fun D R=>R.length) [] l ?_ rfl (fun D R hp=>?_)
  ·exact zj
  cases R with
  |nil=>exact Lc
  |cons y R=>
   have hlen':=aO hp;have es:(D++[y]).foldl gU (x,x)=gU (D.foldl gU (x,x)) y:=H6
   have eD:(D++[y]).length=D.length+1:=Af;generalize D.foldl gU (x,x)=b at*
   repeat' ((conv=>whnf);first|(exfalso;omega)|refine cC0 [(0,999),(5,999),(4,4),(23,4),(24,4),(32,4),(33,4),(42,4),(26,999),(27,999),(28,999),(29,999),(35,999),(36,999),(37,999),(38,999)] Ae Ad ?_|refine aB (l:=l) Aa ?_|refine aF (l:=l) (A:=D) (x:=y) (B:=R) hp Aa ?_|refine zS ?_|refine zl (fun hlt=>?_) (fun hlt=>?_))
   all_goals conv=>whnf
   exact RP
theorem gB4(r:Rg)(hl:r.length<=1000000):Sp 309 [rgV r] (.tup [bxV (boxR r).1, .lit (.bool (boxR r).2)]):=by
 refine zsp Tryz.func309 ?_;have g0:=fE9 r hl;have g1:=fV1 r hl
 by_cases h:dM r
 ·have e:boxR r=aC7 r:=if_pos h
  rw[dbT h]at g0;rw[e];generalize aC7 r=b at*;exact QO
 ·have e:boxR r=(((0,0),(0,0)),false):=if_neg h
  rw[dbF h]at g0;rw[e];exact QD
theorem fX2(s:Sh)(hs:gV s):Sp 257 [shV s] (.tup [bxV (boxS s).1, .lit (.bool (boxS s).2)]):=by
 refine zsp Tryz.func257 ?_;have g0:=aD7 s hs;have g1:=gB4 s.outer hs.1
 by_cases h:bG s
 ·rw[eG7 h]
  rw[dbT h]at g0;generalize boxR s.outer=b at*;exact QO
 ·rw[eW5 h]
  rw[dbF h]at g0;exact QD
theorem fF5(p:Vc):Sp 156 [vcV p] (DB (dQ p)):=by
 refine zsp Tryz.func156 ?_;have hr:dQ p↔0<=p.1/\0<=p.2/\p.1<=1900/\p.2<=1900:=by unfold dQ;omega
 generalize dQ p=P at*
 repeat' ((conv=>whnf);first|refine zS ?_|refine zT ?_ ?_<;>intro _|fail)
 all_goals conv=>whnf
 all_goals refine aA ?_
 all_goals first
  |(refine le_dec ?_;rw[hr];omega)
  |exact aC (fun h=>AL)
theorem fE6(s:Sh)(hs:gV s):Sp 155 [shV s] (DB (jV s)):=by
 refine zsp Tryz.func155 ?_;have hr:jV s↔bG s/\qO s=s:=⟨fun h=>⟨h.1,h.2.symm⟩,fun h=>⟨h.1,h.2.symm⟩⟩;have g0:=aD7 s hs
 have g1:=fM2 s hs
 have hcs:gV (qO s):=by
  by_cases h:bG s
  ·exact aU5 h
  ·rw[bH5 h]
   exact⟨Jh,Jh,fun r hr=>by simp[sh0]at hr⟩
 have g2:=fV6 (qO s) s hcs hs;generalize jV s=P at*;generalize (qO s=s)=p2 at*;generalize qO s=c at*;generalize bG s=p1 at*
 repeat' ((conv=>whnf);first|refine zc g0 ?_|refine zc g1 ?_|refine zc g2 ?_|refine zS ?_|refine zT ?_ ?_<;>intro _|fail)
 all_goals conv=>whnf
 all_goals first
  |exact aA (fQ ⟨fun h=>hr.2 ⟨Ag,h⟩,fun h=>(hr.1 h).2⟩)
  |exact aA (aC (fun h=>absurd (hr.1 h).1 Ag))
end Go.Proofs.Led
