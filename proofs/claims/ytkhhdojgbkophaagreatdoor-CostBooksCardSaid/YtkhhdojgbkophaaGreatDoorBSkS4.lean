/-
  Stable sorting, walked: the merge in place.
-/
import Derived.Test.YtkhhdojgbkophaaGreatDoorBK12
set_option linter.unusedVariables false
set_option linter.unusedSimpArgs false
set_option maxRecDepth 100000
noncomputable section
namespace Go.Proofs.Cost58
open Go Go.Proofs Go.Ab Go.Proofs.Led
variable{g:FuncId}{cs:List V}{c:Int->Int->Int}{Q:Int->Prop}{key:Int->Int}
theorem sym1_vc(hc:cF2 g cs c Q)(hk:∀a b,c a b<0↔key a<key b)(A Y C:List Int)(x:Int)(hYs:Srt key Y)(hqx:Q x)(hqY:∀z∈Y,Q z)(hl:A.length+1+Y.length+C.length<=100000):
 fnIO T Tryz.prog Tryz.f126 [.own 3 ((A++[x] ++Y++C).map I),I A.length,I (A.length+1),I (A.length+1+Y.length), .fn g [.fp cs]] (.tup []) 0 3 ((A++mergeP c [x] Y++C).map I):=by
 have hsz:(A++[x] ++Y++C).length=A.length+1+Y.length+C.length:=Ai
 repeat' ((conv=>whnf);first
  |refine arith_half Aa ?_
  |refine arith_u Aa ?_
  |(exfalso;omega)
  |refine eY7 ?_
  |refine eZ1 Ac ?_
  |refine eH4 Aa ?_
  |refine fU (p:=(T.row _).eq=true) Ac ?_
  |refine fU Aa ?_
  |refine eZ2 ?_
  |refine eZ0 (fun hd=>?_) (fun hd=>?_)
  |refine br_lt (fun hlt=>?_) (fun hlt=>?_)
  |refine br_le (fun hle=>?_) (fun hle=>?_)
  |refine eV7 (fun heq=>?_) (fun heq=>?_)
  |refine eQ9 Aa (fun x hx=>?_)
  |refine eY0 rfl (fun h=>Ad) ?_
  |refine jU (fun hbb=>?_) (fun hbb=>?_)
  |refine ret_i ?_
  |refine fA7 ?_)
 refine aU (A:=Nat) (B:=Nat) (fun u v=>mkSt [(0, .arr 0 0),(1,I A.length),(4, .fn g [.fp cs]),(10,I (A.length+1+u)),(11,I (A.length+1+v))] [] [(0,⟨0, .own,3,(A++[x] ++Y++C).map I⟩)])
  (fun u v=>u<=v/\v<=Y.length/\(∀t z,t<u->Y[t]? =some z->c z x<0)/\(∀t z,v<=t->Y[t]? =some z->¬c z x<0)) (fun u v=>v-u) 0 Y.length ?_
  ⟨Aa,Aa,Aa,fun t z h1 h2=>EF⟩ (fun u v hp=>?_)
 ·exact Il
 ·obtain⟨hp1,hp2,hp3,hp4⟩:=hp
  rcases Nat.lt_or_ge u v with huv|huv
  ·obtain⟨w,hw⟩:∃w,w=(u+v)/2:=⟨_,rfl⟩
   have hwl:w<Y.length:=Aa;obtain⟨y,hy⟩:∃y,Y[w]? =some y:=⟨_,List.getElem?_eq_getElem hwl⟩;have hqy:Q y:=hqY y (List.mem_of_getElem? hy)
   have hYw:Y=Y.take w++y::Y.drop (w+1):=by
    have e:=(List.getElem?_eq_some_iff.1 hy).2;rw[<-e,<-List.drop_eq_getElem_cons hwl,List.take_append_drop]
   have hL:A++[x] ++Y++C=(A++[x] ++Y.take w)++y::(Y.drop (w+1)++C):=by
    conv=>lhs;rw[hYw]
    simp
   have hi1:(A++[x] ++Y.take w).length=A.length+1+w:=Ai
   repeat' ((conv=>whnf);first
    |refine arith_half Aa ?_
    |refine arith_u Aa ?_
    |(exfalso;omega)
    |(refine dX6 (l:=A++[x] ++Y++C) rfl (fun h=>Ad) rfl ?_ ?_;focus (constructor<;>omega))
    |refine aF (l:=A++[x] ++Y++C) (A:=A++[x] ++Y.take w) (x:=y) (B:=Y.drop (w+1)++C) hL (by rw[hi1];omega) ?_
    |refine aF (l:=A++[x] ++Y++C) (A:=A) (x:=x) (B:=Y++C) Ae Aa ?_
    |(refine aS5 (hc y x hqy hqx) false ?_ rfl ?_;focus ((repeat' (first|exact trivial|refine And.intro ?_ ?_|with_reducible rfl|exact(fun h=>Ad)|exact rfl));done))
    |refine eY7 ?_
    |refine eZ1 Ac ?_
    |refine eH4 Aa ?_
    |refine fU (p:=(T.row _).eq=true) Ac ?_
    |refine fU Aa ?_
    |refine eZ2 ?_
    |refine eZ0 (fun hd=>?_) (fun hd=>?_)
    |refine br_lt (fun hlt=>?_) (fun hlt=>?_)
    |refine br_le (fun hle=>?_) (fun hle=>?_)
    |refine eV7 (fun heq=>?_) (fun heq=>?_)
    |refine eQ9 Aa (fun x hx=>?_)
    |refine eY0 rfl (fun h=>Ad) ?_
    |refine jU (fun hbb=>?_) (fun hbb=>?_)
    |refine ret_i ?_
    |refine fA7 ?_)
   ·refine⟨(w+1,v),?_,⟨Ia,hp2,fun t z ht hz=>?_,hp4⟩,Gp⟩
    ·exact Il
    ·have h1:=hYs t w z y (Nat.le_of_lt_succ ht) hz hy
     rw[hk]at hlt⊢;omega
   ·refine⟨(u,w),?_,⟨by show u<=w;omega,by show w<=_;omega,hp3,fun t z ht hz=>?_⟩,Ht⟩
    ·exact Il
    ·have h1:=hYs w t y z ht hy hz
     have h2:¬c y x<0:=Aa;rw[hk]at h2⊢;omega
  ·have huv':v=u:=by omega
   subst huv'
   repeat' ((conv=>whnf);first
    |refine arith_half Aa ?_
    |refine arith_u Aa ?_
    |(exfalso;omega)
    |refine eY7 ?_
    |refine eZ1 Ac ?_
    |refine eH4 Aa ?_
    |refine fU (p:=(T.row _).eq=true) Ac ?_
    |refine fU Aa ?_
    |refine eZ2 ?_
    |refine eZ0 (fun hd=>?_) (fun hd=>?_)
    |refine br_lt (fun hlt=>?_) (fun hlt=>?_)
    |refine br_le (fun hle=>?_) (fun hle=>?_)
    |refine eV7 (fun heq=>?_) (fun heq=>?_)
    |refine eQ9 Aa (fun x hx=>?_)
    |refine eY0 rfl (fun h=>Ad) ?_
    |refine jU (fun hbb=>?_) (fun hbb=>?_)
    |refine ret_i ?_
    |refine fA7 ?_)
   refine lD (A:=Nat) (fun q=>mkSt [(0, .arr 0 0),(10,I (A.length+1+v)),(13,I (A.length+q))] [] [(0,⟨0, .own,3,(A++Y.take q++x::Y.drop q++C).map I⟩)])
    (fun q=>q<=v) (fun q=>v-q) 0 ?_ Aa (fun q hq=>?_)
   ·refine dV ?_ ?_ ?_ ?_
    all_goals repeat' (first|exact trivial|refine And.intro ?_ ?_|with_reducible rfl|exact(fun h=>Ad)|exact Nat.le_refl _|omega|exact rfl)
    ·show List.map I (A++[x] ++Y++C)=List.map I (A++List.take 0 Y++x::List.drop 0 Y++C)
     simp
   ·change q<=v at hq
    rcases Nat.lt_or_ge q v with hqv|hqv
    ·have hql:q<Y.length:=by omega
     have hd:Y.drop q=Y[q] ::Y.drop (q+1):=List.drop_eq_getElem_cons hql;have ht:Y.take (q+1)=Y.take q++[Y[q]] :=DC
     have hlt':(Y.take q).length=q:=AP;generalize Y[q] =y at hd ht;obtain⟨Y1,hY1⟩:∃z,Y.drop (q+1)=z:=⟨_,rfl⟩;obtain⟨Y0,hY0⟩:∃z,Y.take q=z:=⟨_,rfl⟩;rw[hY0]at ht hlt';rw[hY1]at hd;rw[hY0,hd];have hsz':(A++Y0++x::y::Y1++C).length=A.length+q+2+(Y1++C).length:=Ai
     repeat' ((conv=>whnf);first
      |refine arith_half Aa ?_
      |refine arith_u Aa ?_
      |(exfalso;omega)
      |(refine dY5 (l:=A++Y0++x::y::Y1++C) rfl (fun h=>Ad) rfl ?_ ?_;focus (constructor<;>omega))
      |refine cQ9 Aa ?_
      |(refine dX6 (l:=A++Y0++x::y::Y1++C) rfl (fun h=>Ad) rfl ?_ ?_;focus (constructor<;>omega))
      |refine aF (l:=A++Y0++x::y::Y1++C) (A:=A++Y0) (x:=x) (B:=y::Y1++C) Ae Ai ?_
      |refine aF (l:=A++Y0++x::y::Y1++C) (A:=A++Y0++[x]) (x:=y) (B:=Y1++C) Ae Ai ?_
      |refine dB8 rfl rfl ?_
      |refine eY7 ?_
      |refine eZ1 Ac ?_
      |refine eH4 Aa ?_
      |refine fU (p:=(T.row _).eq=true) Ac ?_
      |refine fU Aa ?_
      |refine eZ2 ?_
      |refine eZ0 (fun hd=>?_) (fun hd=>?_)
      |refine br_lt (fun hlt=>?_) (fun hlt=>?_)
      |refine br_le (fun hle=>?_) (fun hle=>?_)
      |refine eV7 (fun heq=>?_) (fun heq=>?_)
      |refine eQ9 Aa (fun x hx=>?_)
      |refine eY0 rfl (fun h=>Ad) ?_
      |refine jU (fun hbb=>?_) (fun hbb=>?_)
      |refine ret_i ?_
      |refine fA7 ?_)
     refine⟨q+1,?_,(by show q+1<=v;omega),Aa⟩
     rw[ht,hY1];refine dV ?_ ?_ ?_ ?_;all_goals repeat' (first|exact trivial|refine And.intro ?_ ?_|with_reducible rfl|exact(fun h=>Ad)|exact Nat.le_refl _|omega|exact rfl)
     ·show List.set (List.set (List.map I (A++Y0++x::y::Y1++C)) _ (I y)) _ (I x)=List.map I (A++(Y0++[y])++x::Y1++C)
      rw[show A++Y0++x::y::Y1++C=(A++Y0)++x::(y::Y1++C) from Ae,List.map_append,List.map_cons,set_mid Ai,<-List.map_cons,<-List.map_append];rw[show(A++Y0)++y::(y::Y1++C)=(A++Y0++[y])++y::(Y1++C) from Ae,List.map_append,List.map_cons,set_mid Ai,<-List.map_cons,<-List.map_append];simp
    ·have e:q=v:=by omega
     subst e
     repeat' ((conv=>whnf);first
      |refine arith_half Aa ?_
      |refine arith_u Aa ?_
      |(exfalso;omega)
      |refine eY7 ?_
      |refine eZ1 Ac ?_
      |refine eH4 Aa ?_
      |refine fU (p:=(T.row _).eq=true) Ac ?_
      |refine fU Aa ?_
      |refine eZ2 ?_
      |refine eZ0 (fun hd=>?_) (fun hd=>?_)
      |refine br_lt (fun hlt=>?_) (fun hlt=>?_)
      |refine br_le (fun hle=>?_) (fun hle=>?_)
      |refine eV7 (fun heq=>?_) (fun heq=>?_)
      |refine eQ9 Aa (fun x hx=>?_)
      |refine eY0 rfl (fun h=>Ad) ?_
      |refine jU (fun hbb=>?_) (fun hbb=>?_)
      |refine ret_i ?_
      |refine fA7 ?_)
     refine cA7 ?_
     conv=>whnf
     refine⟨[],rfl,⟨⟨rfl,rfl,rfl,?_⟩,trivial⟩,rfl⟩;show List.map I (A++List.take q Y++x::List.drop q Y++C)=List.map I (A++mergeP c [x] Y++C)
     have hm:=merge_one (c:=c) (x:=x) (Y1:=Y.take q) (Y2:=Y.drop q) (fun y hy=>by
      obtain⟨t,ht⟩:=List.mem_iff_getElem?.1 hy;have h1:=(List.getElem?_eq_some_iff.1 ht).1;rw[List.length_take]at h1;rw[List.getElem?_take,if_pos Aa]at ht
      exact hp3 t y Aa ht) (fun y hy=>by
      obtain⟨t,ht⟩:=List.mem_iff_getElem?.1 hy;rw[List.getElem?_drop]at ht;exact hp4 (q+t) y Aa ht)
     rw[List.take_append_drop]at hm;rw[hm];simp
theorem sym2_vc(hc:cF2 g cs c Q)(hk:∀a b,c a b<0↔key a<key b)(A X C:List Int)(y:Int)(hXs:Srt key X)(hqy:Q y)(hqX:∀z∈X,Q z)(hX2:2<=X.length)(hl:A.length+1+X.length+C.length<=100000):
 fnIO T Tryz.prog Tryz.f126 [.own 3 ((A++X++[y] ++C).map I),I A.length,I (A.length+X.length),I (A.length+X.length+1), .fn g [.fp cs]] (.tup []) 0 3 ((A++mergeP c X [y] ++C).map I):=by
 have hsz:(A++X++[y] ++C).length=A.length+X.length+1+C.length:=Ai
 repeat' ((conv=>whnf);first
  |refine arith_half Aa ?_
  |refine arith_u Aa ?_
  |(exfalso;omega)
  |refine eY7 ?_
  |refine eZ1 Ac ?_
  |refine eH4 Aa ?_
  |refine fU (p:=(T.row _).eq=true) Ac ?_
  |refine fU Aa ?_
  |refine eZ2 ?_
  |refine eZ0 (fun hd=>?_) (fun hd=>?_)
  |refine br_lt (fun hlt=>?_) (fun hlt=>?_)
  |refine br_le (fun hle=>?_) (fun hle=>?_)
  |refine eV7 (fun heq=>?_) (fun heq=>?_)
  |refine eQ9 Aa (fun x hx=>?_)
  |refine eY0 rfl (fun h=>Ad) ?_
  |refine jU (fun hbb=>?_) (fun hbb=>?_)
  |refine ret_i ?_
  |refine fA7 ?_)
 refine aU (A:=Nat) (B:=Nat) (fun u v=>mkSt [(0, .arr 0 0),(2,I (A.length+X.length)),(4, .fn g [.fp cs]),(14,I (A.length+u)),(15,I (A.length+v))] [] [(0,⟨0, .own,3,(A++X++[y] ++C).map I⟩)])
  (fun u v=>u<=v/\v<=X.length/\(∀t z,t<u->X[t]? =some z->¬c y z<0)/\(∀t z,v<=t->X[t]? =some z->c y z<0)) (fun u v=>v-u) 0 X.length ?_
  ⟨Aa,Aa,Aa,fun t z h1 h2=>EF⟩ (fun u v hp=>?_)
 ·exact Il
 ·obtain⟨hp1,hp2,hp3,hp4⟩:=hp
  rcases Nat.lt_or_ge u v with huv|huv
  ·obtain⟨w,hw⟩:∃w,w=(u+v)/2:=⟨_,rfl⟩
   have hwl:w<X.length:=Aa;obtain⟨x,hx⟩:∃x,X[w]? =some x:=⟨_,List.getElem?_eq_getElem hwl⟩;have hqx:Q x:=hqX x (List.mem_of_getElem? hx)
   have hXw:X=X.take w++x::X.drop (w+1):=KP
   have hL:A++X++[y] ++C=(A++X.take w)++x::(X.drop (w+1)++[y] ++C):=by
    conv=>lhs;rw[hXw]
    simp
   have hi1:(A++X.take w).length=A.length+w:=Ai
   repeat' ((conv=>whnf);first
    |refine arith_half Aa ?_
    |refine arith_u Aa ?_
    |(exfalso;omega)
    |(refine dX6 (l:=A++X++[y] ++C) rfl (fun h=>Ad) rfl ?_ ?_;focus (constructor<;>omega))
    |refine aF (l:=A++X++[y] ++C) (A:=A++X.take w) (x:=x) (B:=X.drop (w+1)++[y] ++C) hL (by rw[hi1];omega) ?_
    |refine aF (l:=A++X++[y] ++C) (A:=A++X) (x:=y) (B:=C) Ae Ai ?_
    |(refine aS5 (hc y x hqy hqx) false ?_ rfl ?_;focus ((repeat' (first|exact trivial|refine And.intro ?_ ?_|with_reducible rfl|exact(fun h=>Ad)|exact rfl));done))
    |refine eY7 ?_
    |refine eZ1 Ac ?_
    |refine eH4 Aa ?_
    |refine fU (p:=(T.row _).eq=true) Ac ?_
    |refine fU Aa ?_
    |refine eZ2 ?_
    |refine eZ0 (fun hd=>?_) (fun hd=>?_)
    |refine br_lt (fun hlt=>?_) (fun hlt=>?_)
    |refine br_le (fun hle=>?_) (fun hle=>?_)
    |refine eV7 (fun heq=>?_) (fun heq=>?_)
    |refine eQ9 Aa (fun x hx=>?_)
    |refine eY0 rfl (fun h=>Ad) ?_
    |refine jU (fun hbb=>?_) (fun hbb=>?_)
    |refine ret_i ?_
    |refine fA7 ?_)
   ·refine⟨(u,w),?_,⟨by show u<=w;omega,by show w<=_;omega,hp3,fun t z ht hz=>?_⟩,Ht⟩
    ·exact Il
    ·have h1:=hXs w t x z ht hx hz
     rw[hk]at hlt⊢;omega
   ·refine⟨(w+1,v),?_,⟨Ia,hp2,fun t z ht hz=>?_,hp4⟩,Gp⟩
    ·exact Il
    ·have h1:=hXs t w z x (Nat.le_of_lt_succ ht) hz hx
     have h2:¬c y x<0:=Aa;rw[hk]at h2⊢;omega
  ·have huv':v=u:=by omega
   subst huv'
   repeat' ((conv=>whnf);first
    |refine arith_half Aa ?_
    |refine arith_u Aa ?_
    |(exfalso;omega)
    |refine eY7 ?_
    |refine eZ1 Ac ?_
    |refine eH4 Aa ?_
    |refine fU (p:=(T.row _).eq=true) Ac ?_
    |refine fU Aa ?_
    |refine eZ2 ?_
    |refine eZ0 (fun hd=>?_) (fun hd=>?_)
    |refine br_lt (fun hlt=>?_) (fun hlt=>?_)
    |refine br_le (fun hle=>?_) (fun hle=>?_)
    |refine eV7 (fun heq=>?_) (fun heq=>?_)
    |refine eQ9 Aa (fun x hx=>?_)
    |refine eY0 rfl (fun h=>Ad) ?_
    |refine jU (fun hbb=>?_) (fun hbb=>?_)
    |refine ret_i ?_
    |refine fA7 ?_)
   refine lD (A:=Nat) (fun q=>mkSt [(0, .arr 0 0),(14,I (A.length+v)),(17,I (A.length+q))] [] [(0,⟨0, .own,3,(A++X.take q++y::X.drop q++C).map I⟩)])
    (fun q=>v<=q/\q<=X.length) (fun q=>q) X.length ?_ ⟨Aa,Aa⟩ (fun q hq=>?_)
   ·refine dV ?_ ?_ ?_ ?_
    all_goals repeat' (first|exact trivial|refine And.intro ?_ ?_|with_reducible rfl|exact(fun h=>Ad)|exact Nat.le_refl _|omega|exact rfl)
    ·show List.map I (A++X++[y] ++C)=List.map I (A++List.take X.length X++y::List.drop X.length X++C)
     simp
   ·change v<=q/\q<=X.length at hq
    rcases Nat.lt_or_ge v q with hqv|hqv
    ·obtain⟨p,rfl⟩:∃p,q=p+1:=⟨q-1,Aa⟩
     have hql:p<X.length:=Aa;have hd:X.drop p=X[p] ::X.drop (p+1):=List.drop_eq_getElem_cons hql
     have ht:X.take (p+1)=X.take p++[X[p]] :=DC;have hlt':(X.take p).length=p:=AP
     generalize X[p] =x at hd ht;obtain⟨X1,hX1⟩:∃z,X.drop (p+1)=z:=⟨_,rfl⟩;obtain⟨X0,hX0⟩:∃z,X.take p=z:=⟨_,rfl⟩;rw[hX0]at ht hlt';rw[hX1]at hd;rw[hX1,ht];have hsz':(A++(X0++[x])++y::X1++C).length=A.length+p+2+(X1++C).length:=Ai
     repeat' ((conv=>whnf);first
      |refine arith_half Aa ?_
      |refine arith_u Aa ?_
      |(exfalso;omega)
      |(refine dY5 (l:=A++(X0++[x])++y::X1++C) rfl (fun h=>Ad) rfl ?_ ?_;focus (constructor<;>omega))
      |refine cQ9 Aa ?_
      |(refine dX6 (l:=A++(X0++[x])++y::X1++C) rfl (fun h=>Ad) rfl ?_ ?_;focus (constructor<;>omega))
      |refine aF (l:=A++(X0++[x])++y::X1++C) (A:=A++X0) (x:=x) (B:=y::X1++C) Ae Ai ?_
      |refine aF (l:=A++(X0++[x])++y::X1++C) (A:=A++X0++[x]) (x:=y) (B:=X1++C) Ae Ai ?_
      |refine dB8 rfl rfl ?_
      |refine eY7 ?_
      |refine eZ1 Ac ?_
      |refine eH4 Aa ?_
      |refine fU (p:=(T.row _).eq=true) Ac ?_
      |refine fU Aa ?_
      |refine eZ2 ?_
      |refine eZ0 (fun hd=>?_) (fun hd=>?_)
      |refine br_lt (fun hlt=>?_) (fun hlt=>?_)
      |refine br_le (fun hle=>?_) (fun hle=>?_)
      |refine eV7 (fun heq=>?_) (fun heq=>?_)
      |refine eQ9 Aa (fun x hx=>?_)
      |refine eY0 rfl (fun h=>Ad) ?_
      |refine jU (fun hbb=>?_) (fun hbb=>?_)
      |refine ret_i ?_
      |refine fA7 ?_)
     refine⟨p,?_,⟨Aa,Aa⟩,Aa⟩;rw[hX0,hd];refine dV ?_ ?_ ?_ ?_;all_goals repeat' (first|exact trivial|refine And.intro ?_ ?_|with_reducible rfl|exact(fun h=>Ad)|exact Nat.le_refl _|omega|exact rfl)
     ·show List.set (List.set (List.map I (A++(X0++[x])++y::X1++C)) _ (I x)) _ (I y)=List.map I (A++X0++y::x::X1++C)
      rw[show A++(X0++[x])++y::X1++C=(A++X0++[x])++y::(X1++C) from Ae,List.map_append,List.map_cons,set_mid Ai,<-List.map_cons,<-List.map_append];rw[show(A++X0++[x])++x::(X1++C)=(A++X0)++x::(x::X1++C) from Ae,List.map_append,List.map_cons,set_mid Ai,<-List.map_cons,<-List.map_append];simp
    ·have e:q=v:=by omega
     subst e
     repeat' ((conv=>whnf);first
      |refine arith_half Aa ?_
      |refine arith_u Aa ?_
      |(exfalso;omega)
      |refine eY7 ?_
      |refine eZ1 Ac ?_
      |refine eH4 Aa ?_
      |refine fU (p:=(T.row _).eq=true) Ac ?_
      |refine fU Aa ?_
      |refine eZ2 ?_
      |refine eZ0 (fun hd=>?_) (fun hd=>?_)
      |refine br_lt (fun hlt=>?_) (fun hlt=>?_)
      |refine br_le (fun hle=>?_) (fun hle=>?_)
      |refine eV7 (fun heq=>?_) (fun heq=>?_)
      |refine eQ9 Aa (fun x hx=>?_)
      |refine eY0 rfl (fun h=>Ad) ?_
      |refine jU (fun hbb=>?_) (fun hbb=>?_)
      |refine ret_i ?_
      |refine fA7 ?_)
     refine cA7 ?_
     conv=>whnf
     refine⟨[],rfl,⟨⟨rfl,rfl,rfl,?_⟩,trivial⟩,rfl⟩;show List.map I (A++List.take q X++y::List.drop q X++C)=List.map I (A++mergeP c X [y] ++C)
     have hm:=merge_one' (c:=c) (y:=y) (X1:=X.take q) (X2:=X.drop q) (fun y hy=>by
      obtain⟨t,ht⟩:=List.mem_iff_getElem?.1 hy;have h1:=(List.getElem?_eq_some_iff.1 ht).1;rw[List.length_take]at h1;rw[List.getElem?_take,if_pos Aa]at ht
      exact hp3 t y Aa ht) (fun y hy=>by
      obtain⟨t,ht⟩:=List.mem_iff_getElem?.1 hy;rw[List.getElem?_drop]at ht;exact hp4 (q+t) y Aa ht)
     rw[List.take_append_drop]at hm;rw[hm];simp
end Go.Proofs.Cost58
