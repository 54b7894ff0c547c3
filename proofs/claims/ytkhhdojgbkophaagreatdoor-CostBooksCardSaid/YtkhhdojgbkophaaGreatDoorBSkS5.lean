/-
  Stable sorting, walked: the merge in place, in general.
-/
import Derived.Test.YtkhhdojgbkophaaGreatDoorBSkS4
set_option linter.unusedVariables false
set_option linter.unusedSimpArgs false
set_option maxRecDepth 100000
noncomputable section
namespace Go.Proofs.Cost58
open Go Go.Proofs Go.Ab Go.Proofs.Led
variable{g:FuncId}{cs:List V}{c:Int->Int->Int}{Q:Int->Prop}{key:Int->Int}
def SymN(g:FuncId)(cs:List V)(c:Int->Int->Int)(Q:Int->Prop)(key:Int->Int)(N:Nat):Prop:=∀ {l l':List Int} {a m b:Int} (A X Y C:List Int),X.length+Y.length<=N->0<X.length->0<Y.length->Srt key X->Srt key Y->(∀z∈X,Q z)->(∀z∈Y,Q z)->
    l=A++X++Y++C->l'=A++mergeP c X Y++C->a=A.length->m=A.length+X.length->b=A.length+X.length+Y.length->A.length+X.length+Y.length+C.length<=100000->
    SpIO 126 [.own 3 (l.map I),I a,I m,I b, .fn g [.fp cs]] (.tup []) 3 (l'.map I)
def CutL(c:Int->Int->Int)(X Y:List Int)(h lo u:Nat):Prop:=u=lo\/∃x y,X[u-1]? =some x/\Y[h-u]? =some y/\¬c y x<0
def CutR(c:Int->Int->Int)(X Y:List Int)(h hi v:Nat):Prop:=v=hi\/∃x y,X[v]? =some x/\Y[h-v-1]? =some y/\c y x<0
set_option maxHeartbeats 2000000 in
theorem sym3_vc(hc:cF2 g cs c Q)(hk:∀a b,c a b<0↔key a<key b){N:Nat}(ih:SymN g cs c Q key N)(A X Y C:List Int)(hX2:2<=X.length)(hY2:2<=Y.length)(hN:X.length+Y.length<=N+1)(hXs:Srt key X)(hYs:Srt key Y)(hqX:∀z∈X,Q z)(hqY:∀z∈Y,Q z)(hl:A.length+X.length+Y.length+C.length<=100000):
 fnIO T Tryz.prog Tryz.f126 [.own 3 ((A++X++Y++C).map I),I A.length,I (A.length+X.length),I (A.length+X.length+Y.length), .fn g [.fp cs]] (.tup []) 0 3 ((A++mergeP c X Y++C).map I):=by
 have hsz:(A++X++Y++C).length=A.length+X.length+Y.length+C.length:=by simp;omega
 obtain⟨h,hh⟩:∃h,h=(X.length+Y.length)/2:=⟨_,rfl⟩
 obtain⟨lo,hi,hlh⟩:∃lo hi,(X.length>h/\lo+Y.length=h/\hi=h)\/(X.length<=h/\lo=0/\hi=X.length):=by
  rcases Nat.lt_or_ge h X.length with q|q
  ·exact⟨h-Y.length,h, .inl ⟨q,by omega,rfl⟩⟩
  ·exact⟨0,X.length, .inr ⟨q,rfl,rfl⟩⟩
 iterate 7 (
  repeat' ((conv=>whnf);first
   |refine arith_half (by omega) ?_
   |refine arith_u (by omega) ?_
   |(exfalso;omega)
   |refine eZ1 (by kernel_rfl) ?_
   |refine eH4 (by omega) ?_
   |refine fU (p:=(T.row _).eq=true) (by kernel_rfl) ?_
   |refine fU (by omega) ?_
   |refine eZ2 ?_
   |refine eZ0 (fun hd=>?_) (fun hd=>?_)
   |refine br_lt (fun hlt=>?_) (fun hlt=>?_)
   |refine br_le (fun hle=>?_) (fun hle=>?_)
   |refine eV7 (fun heq=>?_) (fun heq=>?_)
   |refine eQ9 (by omega) (fun x hx=>?_)
   |refine eY0 rfl (fun h=>by cases h) ?_
   |refine jU (fun hbb=>?_) (fun hbb=>?_)
   |refine ret_i ?_
   |refine fA7 ?_)
  conv=>whnf
  refine eY7 ?_)
 repeat' ((conv=>whnf);first
  |refine arith_half (by omega) ?_
  |refine arith_u (by omega) ?_
  |(exfalso;omega)
  |refine eZ1 (by kernel_rfl) ?_
  |refine eH4 (by omega) ?_
  |refine fU (p:=(T.row _).eq=true) (by kernel_rfl) ?_
  |refine fU (by omega) ?_
  |refine eZ2 ?_
  |refine eZ0 (fun hd=>?_) (fun hd=>?_)
  |refine br_lt (fun hlt=>?_) (fun hlt=>?_)
  |refine br_le (fun hle=>?_) (fun hle=>?_)
  |refine eV7 (fun heq=>?_) (fun heq=>?_)
  |refine eQ9 (by omega) (fun x hx=>?_)
  |refine eY0 rfl (fun h=>by cases h) ?_
  |refine jU (fun hbb=>?_) (fun hbb=>?_)
  |refine ret_i ?_
  |refine fA7 ?_)
 conv=>whnf
 refine dJ4 Unit (fun _=>mkSt [(0, .arr 0 0),(1,I A.length),(2,I (A.length+X.length)),(3,I (A.length+X.length+Y.length)),(4, .fn g [.fp cs]),(18,I (A.length+h)),(19,I (2*A.length+h+X.length)),(20,I (A.length+lo)),(21,I (A.length+hi))] [] [(0,⟨0, .own,3,(A++X++Y++C).map I⟩)]) (fun _=>True) ?_ (fun _ _=>?_)
 ·repeat' ((conv=>whnf);first
   |refine arith_half (by omega) ?_
   |refine arith_u (by omega) ?_
   |refine eY7 ?_
   |refine eZ1 (by kernel_rfl) ?_
   |refine eH4 (by omega) ?_
   |refine fU (p:=(T.row _).eq=true) (by kernel_rfl) ?_
   |refine fU (by omega) ?_
   |refine eZ2 ?_
   |refine eZ0 (fun hd=>?_) (fun hd=>?_)
   |refine br_lt (fun hlt=>?_) (fun hlt=>?_)
   |refine br_le (fun hle=>?_) (fun hle=>?_)
   |refine eV7 (fun heq=>?_) (fun heq=>?_)
   |refine eQ9 (by omega) (fun x hx=>?_)
   |refine eY0 rfl (fun h=>by cases h) ?_
   |refine jU (fun hbb=>?_) (fun hbb=>?_)
   |refine ret_i ?_
   |refine fA7 ?_)
  all_goals
   refine⟨(),?_,trivial⟩
   refine dV ?_ ?_ ?_ ?_
   all_goals repeat' (first|exact trivial|refine And.intro ?_ ?_|with_reducible rfl|exact(fun h=>by cases h)|exact Nat.le_refl _|omega|exact rfl)
 conv=>whnf
 refine eY7 ?_
 repeat' ((conv=>whnf);first
  |refine arith_half (by omega) ?_
  |refine arith_u (by omega) ?_
  |(exfalso;omega)
  |refine eZ1 (by kernel_rfl) ?_
  |refine eH4 (by omega) ?_
  |refine fU (p:=(T.row _).eq=true) (by kernel_rfl) ?_
  |refine fU (by omega) ?_
  |refine eZ2 ?_
  |refine eZ0 (fun hd=>?_) (fun hd=>?_)
  |refine br_lt (fun hlt=>?_) (fun hlt=>?_)
  |refine br_le (fun hle=>?_) (fun hle=>?_)
  |refine eV7 (fun heq=>?_) (fun heq=>?_)
  |refine eQ9 (by omega) (fun x hx=>?_)
  |refine eY0 rfl (fun h=>by cases h) ?_
  |refine jU (fun hbb=>?_) (fun hbb=>?_)
  |refine ret_i ?_
  |refine fA7 ?_)
 conv=>whnf
 refine dJ4 Nat (fun v=>mkSt [(0, .arr 0 0),(1,I A.length),(2,I (A.length+X.length)),(3,I (A.length+X.length+Y.length)),(4, .fn g [.fp cs]),(18,I (A.length+h)),(19,I (2*A.length+h+X.length)),(20,I (A.length+v))] [] [(0,⟨0, .own,3,(A++X++Y++C).map I⟩)])
  (fun v=>lo<=v/\v<=hi/\CutL c X Y h lo v/\CutR c X Y h hi v) ?_ (fun v hv=>?_)
 ·repeat' ((conv=>whnf);first
   |refine arith_half (by omega) ?_
   |refine arith_u (by omega) ?_
   |refine eY7 ?_
   |refine eZ1 (by kernel_rfl) ?_
   |refine eH4 (by omega) ?_
   |refine fU (p:=(T.row _).eq=true) (by kernel_rfl) ?_
   |refine fU (by omega) ?_
   |refine eZ2 ?_
   |refine eZ0 (fun hd=>?_) (fun hd=>?_)
   |refine br_lt (fun hlt=>?_) (fun hlt=>?_)
   |refine br_le (fun hle=>?_) (fun hle=>?_)
   |refine eV7 (fun heq=>?_) (fun heq=>?_)
   |refine eQ9 (by omega) (fun x hx=>?_)
   |refine eY0 rfl (fun h=>by cases h) ?_
   |refine jU (fun hbb=>?_) (fun hbb=>?_)
   |refine ret_i ?_
   |refine fA7 ?_)
  refine aU (A:=Nat) (B:=Nat) (fun u v=>mkSt [(0, .arr 0 0),(1,I A.length),(2,I (A.length+X.length)),(3,I (A.length+X.length+Y.length)),(4, .fn g [.fp cs]),(18,I (A.length+h)),(19,I (2*A.length+h+X.length)),(20,I (A.length+u)),(21,I (A.length+v)),(22,I (2*A.length+h+X.length-1))] [] [(0,⟨0, .own,3,(A++X++Y++C).map I⟩)])
   (fun u v=>lo<=u/\u<=v/\v<=hi/\CutL c X Y h lo u/\CutR c X Y h hi v) (fun u v=>v-u) lo hi ?_
   ⟨by omega,by omega,by omega, .inl rfl, .inl rfl⟩ (fun u v hp=>?_)
  ·refine dV ?_ ?_ ?_ ?_
   all_goals repeat' (first|exact trivial|refine And.intro ?_ ?_|with_reducible rfl|exact(fun h=>by cases h)|exact Nat.le_refl _|omega|exact rfl)
  ·obtain⟨hp1,hp2,hp3,hp4,hp5⟩:=hp
   rcases Nat.lt_or_ge u v with huv|huv
   ·obtain⟨w,hw⟩:∃w,w=(u+v)/2:=⟨_,rfl⟩
    have hwl:w<X.length:=by omega
    obtain⟨x,hx⟩:∃x,X[w]? =some x:=⟨_,List.getElem?_eq_getElem hwl⟩
    have hqx:Q x:=hqX x (List.mem_of_getElem? hx)
    have hXw:X=X.take w++x::X.drop (w+1):=by
     have e:=(List.getElem?_eq_some_iff.1 hx).2
     rw[<-e,<-List.drop_eq_getElem_cons hwl,List.take_append_drop]
    have hLx:A++X++Y++C=(A++X.take w)++x::(X.drop (w+1)++Y++C):=by
     conv=>lhs;rw[hXw]
     simp
    have hi1:(A++X.take w).length=A.length+w:=by simp;omega
    have hzl:h-w-1<Y.length:=by omega
    obtain⟨y,hy⟩:∃x,Y[h-w-1]? =some x:=⟨_,List.getElem?_eq_getElem hzl⟩
    have hqy:Q y:=hqY y (List.mem_of_getElem? hy)
    have hYw:Y=Y.take (h-w-1)++y::Y.drop (h-w-1+1):=by
     have e:=(List.getElem?_eq_some_iff.1 hy).2
     rw[<-e,<-List.drop_eq_getElem_cons hzl,List.take_append_drop]
    have hLy:A++X++Y++C=(A++X++Y.take (h-w-1))++y::(Y.drop (h-w-1+1)++C):=by
     conv=>lhs;rw[hYw]
     simp
    have hi2:(A++X++Y.take (h-w-1)).length=A.length+X.length+(h-w-1):=by simp;omega
    repeat' ((conv=>whnf);first
     |refine arith_half (by omega) ?_
     |refine arith_u (by omega) ?_
     |(exfalso;omega)
     |(refine dX6 (l:=A++X++Y++C) rfl (fun h=>by cases h) rfl ?_ ?_;focus (constructor<;>omega))
     |refine aF (l:=A++X++Y++C) (A:=A++X.take w) (x:=x) (B:=X.drop (w+1)++Y++C) hLx (by rw[hi1];omega) ?_
     |refine aF (l:=A++X++Y++C) (A:=A++X++Y.take (h-w-1)) (x:=y) (B:=Y.drop (h-w-1+1)++C) hLy (by rw[hi2];omega) ?_
     |(refine aS5 (hc y x hqy hqx) false ?_ rfl ?_;focus ((repeat' (first|exact trivial|refine And.intro ?_ ?_|with_reducible rfl|exact(fun h=>by cases h)|exact rfl));done))
     |refine eY7 ?_
     |refine eZ1 (by kernel_rfl) ?_
     |refine eH4 (by omega) ?_
     |refine fU (p:=(T.row _).eq=true) (by kernel_rfl) ?_
     |refine fU (by omega) ?_
     |refine eZ2 ?_
     |refine eZ0 (fun hd=>?_) (fun hd=>?_)
     |refine br_lt (fun hlt=>?_) (fun hlt=>?_)
     |refine br_le (fun hle=>?_) (fun hle=>?_)
     |refine eV7 (fun heq=>?_) (fun heq=>?_)
     |refine eQ9 (by omega) (fun x hx=>?_)
     |refine eY0 rfl (fun h=>by cases h) ?_
     |refine jU (fun hbb=>?_) (fun hbb=>?_)
     |refine ret_i ?_
     |refine fA7 ?_)
    ·refine⟨(u,w),?_,⟨hp1,by show u<=w;omega,by show w<=hi;omega,hp4, .inr ⟨x,y,hx,hy,by assumption⟩⟩,by show w-u<v-u;omega⟩
     refine dV ?_ ?_ ?_ ?_
     all_goals repeat' (first|exact trivial|refine And.intro ?_ ?_|with_reducible rfl|exact(fun h=>by cases h)|exact Nat.le_refl _|omega|exact rfl)
    ·refine⟨(w+1,v),?_,⟨by show lo<=w+1;omega,by show w+1<=v;omega,hp3, .inr ⟨x,y,hx,by rw[<-hy];show Y[h- (w+1)]? =_;congr 1,by omega⟩,hp5⟩,by show v- (w+1)<v-u;omega⟩
     refine dV ?_ ?_ ?_ ?_
     all_goals repeat' (first|exact trivial|refine And.intro ?_ ?_|with_reducible rfl|exact(fun h=>by cases h)|exact Nat.le_refl _|omega|exact rfl)
   ·have huv':v=u:=by omega
    subst huv'
    repeat' ((conv=>whnf);first
     |refine arith_half (by omega) ?_
     |refine arith_u (by omega) ?_
     |(exfalso;omega)
     |refine eY7 ?_
     |refine eZ1 (by kernel_rfl) ?_
     |refine eH4 (by omega) ?_
     |refine fU (p:=(T.row _).eq=true) (by kernel_rfl) ?_
     |refine fU (by omega) ?_
     |refine eZ2 ?_
     |refine eZ0 (fun hd=>?_) (fun hd=>?_)
     |refine br_lt (fun hlt=>?_) (fun hlt=>?_)
     |refine br_le (fun hle=>?_) (fun hle=>?_)
     |refine eV7 (fun heq=>?_) (fun heq=>?_)
     |refine eQ9 (by omega) (fun x hx=>?_)
     |refine eY0 rfl (fun h=>by cases h) ?_
     |refine jU (fun hbb=>?_) (fun hbb=>?_)
     |refine ret_i ?_
     |refine fA7 ?_)
    refine⟨v,?_,⟨hp1,hp3,hp4,hp5⟩⟩
    refine dV ?_ ?_ ?_ ?_
    all_goals repeat' (first|exact trivial|refine And.intro ?_ ?_|with_reducible rfl|exact(fun h=>by cases h)|exact Nat.le_refl _|omega|exact rfl)
 ·obtain⟨hp1,hp3,hp4,hp5⟩:=hv
  have hm:=cut_sound hk hXs hYs (s:=v) (e:=h-v) (by omega) (by omega)
   (by rcases hp4 with q|q
       ·rcases hlh with r|r
        ·exact .inr (.inl (by omega))
        ·exact .inl (by omega)
       ·exact .inr (.inr q))
   (by rcases hp5 with q|q
       ·rcases hlh with r|r
        ·exact .inr (.inl (by omega))
        ·exact .inl (by omega)
       ·exact .inr (.inr q))
  have hX':=(List.take_append_drop v X).symm
  have hY':=(List.take_append_drop (h-v) Y).symm
  have e1:(X.take v).length=v:=by rw[List.length_take];omega
  have e2:(X.drop v).length=X.length-v:=by rw[List.length_drop]
  have e3:(Y.take (h-v)).length=h-v:=by rw[List.length_take];omega
  have e4:(Y.drop (h-v)).length=Y.length- (h-v):=by rw[List.length_drop]
  obtain⟨X1,hX1⟩:∃z,X.take v=z:=⟨_,rfl⟩
  obtain⟨X2,hX2'⟩:∃z,X.drop v=z:=⟨_,rfl⟩
  obtain⟨Y1,hY1⟩:∃z,Y.take (h-v)=z:=⟨_,rfl⟩
  obtain⟨Y2,hY2'⟩:∃z,Y.drop (h-v)=z:=⟨_,rfl⟩
  rw[hX1]at hX' e1 hm
  rw[hX2']at hX' e2 hm
  rw[hY1]at hY' e3 hm
  rw[hY2']at hY' e4 hm
  have sX1:Srt key X1:=by rw[hX']at hXs;exact hXs.left
  have sX2:Srt key X2:=by rw[hX']at hXs;exact hXs.right
  have sY1:Srt key Y1:=by rw[hY']at hYs;exact hYs.left
  have sY2:Srt key Y2:=by rw[hY']at hYs;exact hYs.right
  have qX1:∀z∈X1,Q z:=fun z hz=>hqX z (by rw[hX'];simp[hz])
  have qX2:∀z∈X2,Q z:=fun z hz=>hqX z (by rw[hX'];simp[hz])
  have qY1:∀z∈Y1,Q z:=fun z hz=>hqY z (by rw[hY'];simp[hz])
  have qY2:∀z∈Y2,Q z:=fun z hz=>hqY z (by rw[hY'];simp[hz])
  have hM:(mergeP c X1 Y1).length=X1.length+Y1.length:=mergeP_len _ _ _ (Nat.le_refl _)
  have hLA:A++X++Y++C=A++X1++X2++Y1++(Y2++C):=by rw[hX',hY'];simp
  have hA1:(A++X1).length=A.length+v:=by rw[List.length_append];omega
  have hA2:(A++X1++Y1).length=A.length+h:=by rw[List.length_append,List.length_append];omega
  have hA3:(A++mergeP c X1 Y1).length=A.length+h:=by rw[List.length_append];omega
  have hA4:(Y2++C).length=Y2.length+C.length:=List.length_append
  have hA5:(X2++Y2++C).length=X2.length+Y2.length+C.length:=by rw[List.length_append,List.length_append]
  have hM1:¬(0<v/\v<h)->mergeP c X1 Y1=X1++Y1:=fun q=>by
   rcases Nat.lt_or_ge 0 v with q'|q'
   ·have:Y1=[] :=List.length_eq_zero_iff.1 (by omega)
    rw[this,mergeP_nil'];simp
   ·have:X1=[] :=List.length_eq_zero_iff.1 (by omega)
    rw[this,mergeP_nil];simp
  have hM2:¬(v<X.length/\h-v<Y.length)->mergeP c X2 Y2=X2++Y2:=fun q=>by
   rcases Nat.lt_or_ge v X.length with q'|q'
   ·have:Y2=[] :=List.length_eq_zero_iff.1 (by omega)
    rw[this,mergeP_nil'];simp
   ·have:X2=[] :=List.length_eq_zero_iff.1 (by omega)
    rw[this,mergeP_nil];simp
  clear hXs hYs hqX hqY hX' hY' hX1 hX2' hY1 hY2' hp4 hp5
  conv=>whnf
  refine eY7 ?_
  repeat' ((conv=>whnf);first
   |refine arith_half (by omega) ?_
   |refine arith_u (by omega) ?_
   |(exfalso;omega)
   |refine eZ1 (by kernel_rfl) ?_
   |refine eH4 (by omega) ?_
   |refine fU (p:=(T.row _).eq=true) (by kernel_rfl) ?_
   |refine fU (by omega) ?_
   |refine eZ2 ?_
   |refine eZ0 (fun hd=>?_) (fun hd=>?_)
   |refine br_lt (fun hlt=>?_) (fun hlt=>?_)
   |refine br_le (fun hle=>?_) (fun hle=>?_)
   |refine eV7 (fun heq=>?_) (fun heq=>?_)
   |refine eQ9 (by omega) (fun x hx=>?_)
   |refine eY0 rfl (fun h=>by cases h) ?_
   |refine jU (fun hbb=>?_) (fun hbb=>?_)
   |refine ret_i ?_
   |refine fA7 ?_)
  conv=>whnf
  refine dJ4 Unit (fun _=>mkSt [(0, .arr 0 0),(1,I A.length),(3,I (A.length+X.length+Y.length)),(4, .fn g [.fp cs]),(18,I (A.length+h)),(20,I (A.length+v)),(24,I (A.length+X.length+(h-v:Nat)))] [] [(0,⟨0, .own,3,(A++X1++Y1++X2++Y2++C).map I⟩)]) (fun _=>True) ?_ (fun _ _=>?_)
  ·repeat' ((conv=>whnf);first
    |refine arith_half (by omega) ?_
    |refine arith_u (by omega) ?_
    |(exfalso;omega)
    |(refine aQ2 (rot_spec (g:=g) (cs:=cs) (l:=A++X++Y++C) (l':=A++X1++Y1++X2++Y2++C) (a:=A.length+v) (m:=A.length+X.length) (b:=2*A.length+h+X.length- (A.length+v)) (A++X1) X2 Y1 (Y2++C) (by omega) (by omega) hLA (by simp) (by omega) (by omega) (by omega) (by omega)) rfl rfl ?_ rfl rfl ?_;focus ((repeat' (first|exact trivial|refine And.intro ?_ ?_|with_reducible rfl|exact(fun h=>by cases h)|exact rfl));done))
    |refine eY7 ?_
    |refine eZ1 (by kernel_rfl) ?_
    |refine eH4 (by omega) ?_
    |refine fU (p:=(T.row _).eq=true) (by kernel_rfl) ?_
    |refine fU (by omega) ?_
    |refine eZ2 ?_
    |refine eZ0 (fun hd=>?_) (fun hd=>?_)
    |refine br_lt (fun hlt=>?_) (fun hlt=>?_)
    |refine br_le (fun hle=>?_) (fun hle=>?_)
    |refine eV7 (fun heq=>?_) (fun heq=>?_)
    |refine eQ9 (by omega) (fun x hx=>?_)
    |refine eY0 rfl (fun h=>by cases h) ?_
    |refine jU (fun hbb=>?_) (fun hbb=>?_)
    |refine ret_i ?_
    |refine fA7 ?_)
   all_goals
    refine⟨(),?_,trivial⟩
    refine dV ?_ ?_ ?_ ?_
    all_goals repeat' (first|exact trivial|refine And.intro ?_ ?_|with_reducible rfl|exact(fun h=>by cases h)|exact Nat.le_refl _|omega|exact rfl)
   all_goals
    have hXY:X2=[]\/Y1=[] :=by
     rcases Nat.lt_or_ge v X.length with q|q
     ·exact .inr (List.length_eq_zero_iff.1 (by omega))
     ·exact .inl (List.length_eq_zero_iff.1 (by omega))
    show List.map I (A++X++Y++C)=List.map I (A++X1++Y1++X2++Y2++C)
    rw[hLA]
    rcases hXY with rfl|rfl<;>simp
  conv=>whnf
  refine dJ4 Unit (fun _=>mkSt [(0, .arr 0 0),(3,I (A.length+X.length+Y.length)),(4, .fn g [.fp cs]),(18,I (A.length+h)),(24,I (A.length+X.length+(h-v:Nat)))] [] [(0,⟨0, .own,3,(A++mergeP c X1 Y1++X2++Y2++C).map I⟩)]) (fun _=>True) ?_ (fun _ _=>?_)
  ·repeat' ((conv=>whnf);first
    |refine arith_half (by omega) ?_
    |refine arith_u (by omega) ?_
    |(exfalso;omega)
    |(refine aQ2 (ih (l:=A++X1++Y1++X2++Y2++C) (l':=A++mergeP c X1 Y1++X2++Y2++C) (a:=A.length) (m:=A.length+v) (b:=A.length+h) A X1 Y1 (X2++Y2++C) (by omega) (by omega) (by omega) sX1 sY1 qX1 qY1 (by simp) (by simp) (by omega) (by omega) (by omega) (by omega)) rfl rfl ?_ rfl rfl ?_;focus ((repeat' (first|exact trivial|refine And.intro ?_ ?_|with_reducible rfl|exact(fun h=>by cases h)|exact rfl));done))
    |refine eY7 ?_
    |refine eZ1 (by kernel_rfl) ?_
    |refine eH4 (by omega) ?_
    |refine fU (p:=(T.row _).eq=true) (by kernel_rfl) ?_
    |refine fU (by omega) ?_
    |refine eZ2 ?_
    |refine eZ0 (fun hd=>?_) (fun hd=>?_)
    |refine br_lt (fun hlt=>?_) (fun hlt=>?_)
    |refine br_le (fun hle=>?_) (fun hle=>?_)
    |refine eV7 (fun heq=>?_) (fun heq=>?_)
    |refine eQ9 (by omega) (fun x hx=>?_)
    |refine eY0 rfl (fun h=>by cases h) ?_
    |refine jU (fun hbb=>?_) (fun hbb=>?_)
    |refine ret_i ?_
    |refine fA7 ?_)
   all_goals
    refine⟨(),?_,trivial⟩
    refine dV ?_ ?_ ?_ ?_
    all_goals repeat' (first|exact trivial|refine And.intro ?_ ?_|with_reducible rfl|exact(fun h=>by cases h)|exact Nat.le_refl _|omega|exact rfl)
   all_goals
    show List.map I (A++X1++Y1++X2++Y2++C)=List.map I (A++mergeP c X1 Y1++X2++Y2++C)
    rw[hM1 (by omega)];simp
  ·repeat' ((conv=>whnf);first
    |refine arith_half (by omega) ?_
    |refine arith_u (by omega) ?_
    |(exfalso;omega)
    |(refine aQ2 (ih (l:=A++mergeP c X1 Y1++X2++Y2++C) (l':=A++mergeP c X1 Y1++mergeP c X2 Y2++C) (a:=A.length+h) (m:=A.length+X.length+(h-v:Nat)) (b:=A.length+X.length+Y.length) (A++mergeP c X1 Y1) X2 Y2 C (by omega) (by omega) (by omega) sX2 sY2 qX2 qY2 (by simp) (by simp) (by omega) (by omega) (by omega) (by omega)) rfl rfl ?_ rfl rfl ?_;focus ((repeat' (first|exact trivial|refine And.intro ?_ ?_|with_reducible rfl|exact(fun h=>by cases h)|exact rfl));done))
    |refine cA7 ?_
    |refine eY7 ?_
    |refine eZ1 (by kernel_rfl) ?_
    |refine eH4 (by omega) ?_
    |refine fU (p:=(T.row _).eq=true) (by kernel_rfl) ?_
    |refine fU (by omega) ?_
    |refine eZ2 ?_
    |refine eZ0 (fun hd=>?_) (fun hd=>?_)
    |refine br_lt (fun hlt=>?_) (fun hlt=>?_)
    |refine br_le (fun hle=>?_) (fun hle=>?_)
    |refine eV7 (fun heq=>?_) (fun heq=>?_)
    |refine eQ9 (by omega) (fun x hx=>?_)
    |refine eY0 rfl (fun h=>by cases h) ?_
    |refine jU (fun hbb=>?_) (fun hbb=>?_)
    |refine ret_i ?_
    |refine fA7 ?_)
   all_goals
    conv=>whnf
    refine⟨[],rfl,⟨⟨rfl,rfl,rfl,?_⟩,trivial⟩,rfl⟩
    rw[hm]
    first
     |(show List.map I (A++mergeP c X1 Y1++mergeP c X2 Y2++C)=_;simp;done)
     |(show List.map I (A++mergeP c X1 Y1++X2++Y2++C)=_;rw[hM2 (by omega)];simp;done)
theorem sym_spec(hc:cF2 g cs c Q)(hk:∀a b,c a b<0↔key a<key b):∀N,SymN g cs c Q key N:=by
 intro N
 induction N with
 |zero=>intro l l' a m b A X Y C h h1;omega
 |succ N ih=>
  intro l l' a m b A X Y C hN hX hY hXs hYs hqX hqY e1 e2 e3 e4 e5 hl
  subst e1 e2 e3 e4 e5
  by_cases h1:X.length=1
  ·obtain⟨x,rfl⟩:=List.length_eq_one_iff.1 h1
   exact eH7 rfl Tryz.func126 (by kernel_rfl) (by kernel_rfl) (sym1_vc hc hk A Y C x hYs (hqX x (by simp)) hqY hl)
  ·by_cases h2:Y.length=1
   ·obtain⟨y,rfl⟩:=List.length_eq_one_iff.1 h2
    exact eH7 rfl Tryz.func126 (by kernel_rfl) (by kernel_rfl) (sym2_vc hc hk A X C y hXs (hqY y (by simp)) hqX (by omega) (by simp at hl;omega))
   ·exact eH7 rfl Tryz.func126 (by kernel_rfl) (by kernel_rfl) (sym3_vc hc hk ih A X Y C (by omega) (by omega) (by omega) hXs hYs hqX hqY hl)
end Go.Proofs.Cost58
