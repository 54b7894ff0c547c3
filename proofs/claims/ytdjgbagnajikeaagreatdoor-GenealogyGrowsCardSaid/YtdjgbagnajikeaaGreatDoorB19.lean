/-
  The genealogy's node, climb, Path, Heat.
-/
import Derived.Test.YtdjgbagnajikeaaGreatDoorSGW7
set_option linter.unusedVariables false
set_option linter.unusedSimpArgs false
set_option maxRecDepth 100000
set_option maxHeartbeats 8000000
noncomputable section
namespace Go.Proofs.Led
open Go Go.Proofs Go.Ab
abbrev SzN(f:List Node):Prop:=∀x∈f,x.size<=9223372036854775807
theorem nodeY_spec(f:List Node)(n:Int)(x:Node)(c:f.length<=1000000)(e:SzN f)(h:RightF f)(a:getN f n=some x):Sp 44 [.sl (f.map nodeV),I n] (.tup [nodeV x,I 0]):=by
 refine zsp Tryz.func44 ?_;have o:=rightG_spec f c e;have l:=findN_spec f n c h.so
 have b:∃m∈f,m.id=n:=getN_ex.2 ⟨x,a⟩;have d:=getN_bs h.so a
 have g:=(QD.1 d).1;have i:(f.map nodeV).length=f.length:=Ae
 clear a;generalize RightF f=P at*;generalize bs Node.id f n=j at*;generalize (∃m∈f,m.id=n)=Q at*
 repeat' ((conv=>whnf);first|(exfalso;contradiction)|refine zS ?_|refine zm (λx k=>?_)|refine zT ?_ ?_<;>intro _|fail)
 all_goals exact zE
def clbSt(f:List Node)(y:Node)(D:List Node):St:=mkSt [(0, .sl (f.map nodeV)),(3, .box 3 0),(5, .arr 9 D.length)] [(3,nodeC y)] [(9,⟨D.length, .own,42,(D++[y]).map nodeV⟩)]
theorem climbL_spec(f:List Node)(x:Node)(o:f.length<=1000000)(h:RightF f)(hx:x∈f):Sp 52 [.sl (f.map nodeV),nodeV x] (.own 42 ((chN f x).map nodeV)):=by
 refine zsp Tryz.func52 ?_;have t:(f.map nodeV).length=f.length:=Ae;have u:=ch_le (f:=f) (x:=x)
 repeat' ((conv=>whnf);first|refine zS ?_|refine zm (λx hx=>?_)|refine zT ?_ ?_<;>intro _|fail)
 refine aU (A:=Node) (B:=List Node) (λy D=>clbSt f y D) (λy D=>y∈f/\chN f x=D++chN f y) (λy D=>(chN f y).length) x [] ?_ ⟨hx,rfl⟩ (λy D a=>?_)
 ·show Le T _ (mkSt [(0, .sl (f.map nodeV)),(3, .box 3 0),(5, .arr 9 0)] [(3,nodeC x)] [(9,⟨0, .own,42,[nodeV x]⟩)])
  exact zj
 obtain⟨g,a⟩:=a;by_cases e:y.parent=0
 ·rw[a,ch_root e]
  exact MX
 obtain⟨z,c,l,C,w,d⟩:=par_get h g e;have E:=findN_spec f y.parent o h.so;have s:∃m∈f,m.id=y.parent:=getN_ex.2 ⟨z,c⟩
 have v:=getN_bs h.so c;have n:=(QD.1 v).1
 have i:D.length<=f.length+1:=by have:=Rh List.length a;rw[QG]at this;omega
 have q:(chN f z).length< (chN f y).length:=by rw[d];simp
 have k:chN f x=(D++[y])++chN f z:=by rw[a,d];simp
 clear c w;generalize bs Node.id f y.parent=j at*;generalize (∃m∈f,m.id=y.parent)=Q at*;unfold clbSt;have b:(D++[y]).length=D.length+1:=Ae;generalize D++[y] =M at*;have r:(M.map nodeV).length=D.length+1:=by simpa using b
 repeat' ((conv=>whnf);first|omega|(exfalso;contradiction)|refine iH rfl (.inl rfl) rfl (QC rfl) (dA rfl) (show(M.map nodeV).length+1<=1000000000 from Aa) ?_|refine zS ?_|refine zm (λx hx=>?_)|refine zT ?_ ?_<;>intro _|fail)
 all_goals conv=>whnf
 refine⟨(z,M),?_,⟨l,k⟩,q⟩;show Le T _ (mkSt [(0, .sl (f.map nodeV)),(3, .box 3 0),(5, .arr 9 M.length)] [(3,nodeC z)] [(9,⟨M.length, .own,42,(M++[z]).map nodeV⟩)]);rw[Rl,b];exact zj
def htSt(f:List Node)(s:ByteArray)(D:List Node)(X:List Int):St:=mkSt [(0, .sl (f.map nodeV)),(1,S s),(5, .arr 30 X.length),(11, .sl (f.map nodeV)),(12,I f.length),(13,I D.length)] [] [(30,⟨X.length, .own,3,X.map I⟩)]
def heatP(s:ByteArray)(x:Node):Prop:=x.kind=3/\x.heat=s
def heatL(s:ByteArray)(f:List Node):List Int:=(f.filter λx=>decB (heatP s x)).map Node.id
def revSt(D M E:List Int):St:=mkSt [(0, .arr 0 0),(2,I D.length),(3,I ((D.length:Int)+M.length-1))] [] [(0,⟨0, .own,3,(D++M++E).map I⟩)]
theorem rev_swap{D c E:List Int}{x y:Int}{a b:Nat}(d:a=D.length)(e:b=D.length+c.length+1):((List.map I (D++x::(c++[y])++E)).set a (I y)).set b (I x)=(D++[y] ++c++x::E).map I:=by
 rw[show D++x::(c++[y])++E=D++x::(c++y::E) from Ae,Rl,QW,set_mid (by simpa using d),<-QW,<-Rl,show D++y::(c++y::E)=(D++y::c)++y::E from Ae,Rl,QW,set_mid AU,<-QW,<-Rl]
 simp
theorem rev_vc(l:List Int)(w:l.length<=1000010):fnIO T Tryz.prog Tryz.f53 [.own 3 (l.map I)] (.tup []) 0 3 (l.reverse.map I):=by
 have o:(l.map I).length=l.length:=Ae
 repeat' ((conv=>whnf);first
  |refine eY7 ?_
  |refine eZ1 Ac ?_
  |refine eH4 Aa ?_
  |refine bW7 ?_
  |refine fU (p:=(T.row _).eq=true) Ac ?_
  |refine fU Aa ?_
  |refine fU rfl ?_
  |refine eZ2 ?_
  |refine eZ0 (λi=>?_) (λi=>?_)
  |refine br_lt (λb=>?_) (λb=>?_)
  |refine br_le (λc=>?_) (λc=>?_)
  |refine eV7 (λd=>?_) (λd=>?_)
  |refine eQ9 Aa (λx q=>?_)
  |refine eY0 rfl (λh=>Ah) ?_
  |refine jU (λe=>?_) (λe=>?_)
  |refine ret_i ?_
  |refine fA7 ?_)
 refine oU (A:=List Int) (B:=List Int) (C:=List Int) (λD M E=>revSt D M E) (λD M E=>l.reverse=D++M.reverse++E/\E.length=D.length) (λD M E=>M.length) [] l [] ?_ ⟨Ae,rfl⟩ (λD M E hp=>?_)
 ·show Le T _ (mkSt [(0, .arr 0 0),(2,I 0),(3,I ((0:Int)+l.length-1))] [] [(0,⟨0, .own,3,([] ++l++[]).map I⟩)])
  rw[TM,QU,<-o,U3];refine dV ?_ ?_ ?_ ?_;all_goals repeat' (first|exact trivial|refine And.intro ?_ ?_|with_reducible rfl|exact(λh=>Ah)|exact QH _|omega|exact rfl)
  exact w_in AU
 obtain⟨hp,v⟩:=hp;have t:l.length=D.length+M.length+E.length:=by have:=Rh List.length hp;simp at this;omega
 have g:M.length<=1->(D++M++E)=l.reverse:=λh=>by
  rw[hp]
  match M,h with
  | [],_=>simp
  | [x],_=>simp
 rcases Ry 1 M.length with j|j
 ·obtain⟨x,a,y,rfl⟩:∃x a y,M=x::(a++[y]):=by
   match M,j with
   |x::z::r,_=>exact⟨x,(z::r).dropLast,(z::r).getLast Ae,by rw[List.dropLast_concat_getLast]⟩
  have f:(x::(a++[y])).length=a.length+2:=Ae;have u:((D++x::(a++[y])++E).map I).length=D.length+a.length+2+E.length:=AU
  have s:D++x::(a++[y])++E=(D++x::a)++y::E:=Ae;have k:D++x::(a++[y])++E=D++x::(a++y::E):=Ae
  have F:(D++x::(a++[y])++E).length=D.length+a.length+2+E.length:=by simpa using u
  unfold revSt;generalize n:D++x::(a++[y])++E=L at*;rw[f]at t j;rw[f]
  repeat' ((conv=>whnf);first
   |omega
   |refine cC0 [(0,77777),(2,999),(3,999),(14,77777),(15,999),(16,77777),(17,999),(18,77777),(19,999),(20,77777),(22,77777),(23,999),(24,77777),(26,77777),(27,77777)] Af Ak ?_
   |(refine dY5 (l:=L) rfl (λh=>Ah) rfl ?_ ?_;focus (constructor<;>omega))
   |refine cQ9 Aa ?_
   |(refine dX6 (l:=L) rfl (λh=>Ah) rfl ?_ ?_;focus (constructor<;>omega))
   |refine aF (l:=L) (A:=D++x::a) (x:=y) (B:=E) s AU ?_
   |refine aF (l:=L) (A:=D) (x:=x) (B:=a++y::E) k Aa ?_
   |refine dB8 rfl rfl ?_
   |refine eY7 ?_
   |refine eZ1 Ac ?_
   |refine eH4 Aa ?_
   |refine bW7 ?_
   |refine fU (p:=(T.row _).eq=true) Ac ?_
   |refine fU Aa ?_
   |refine fU rfl ?_
   |refine eZ2 ?_
   |refine eZ0 (λi=>?_) (λi=>?_)
   |refine br_lt (λb=>?_) (λb=>?_)
   |refine br_le (λc=>?_) (λc=>?_)
   |refine eV7 (λd=>?_) (λd=>?_)
   |refine eQ9 Aa (λx q=>?_)
   |refine eY0 rfl (λh=>Ah) ?_
   |refine jU (λe=>?_) (λe=>?_)
   |refine ret_i ?_
   |refine fA7 ?_)
  all_goals conv=>whnf
  refine⟨(D++[y],a,x::E),?_,⟨Ad,AU⟩,Ae⟩;show Le T _ (mkSt [(0, .arr 0 0),(2,I ((D++[y]).length:Nat)),(3,I (((D++[y]).length:Nat)+a.length-1))] [] [(0,⟨0, .own,3,(D++[y] ++a++x::E).map I⟩)]);refine dV ?_ ?_ ?_ ?_;all_goals repeat' (first|exact trivial|refine And.intro ?_ ?_|with_reducible rfl|exact(λh=>Ah)|exact QH _|omega|exact rfl)
  all_goals first
   |(rw[<-n];exact rev_swap Aa Aa)
   |(exact w_in Aa)
   |(simp only[QG,QK];omega)
   |skip
 ·have m:(D++M++E)=l.reverse:=g Aa
  unfold revSt;rw[m]
  repeat' ((conv=>whnf);first
   |omega
   |refine eY7 ?_
   |refine eZ1 Ac ?_
   |refine eH4 Aa ?_
   |refine bW7 ?_
   |refine fU (p:=(T.row _).eq=true) Ac ?_
   |refine fU Aa ?_
   |refine fU rfl ?_
   |refine eZ2 ?_
   |refine eZ0 (λi=>?_) (λi=>?_)
   |refine br_lt (λb=>?_) (λb=>?_)
   |refine br_le (λc=>?_) (λc=>?_)
   |refine eV7 (λd=>?_) (λd=>?_)
   |refine eQ9 Aa (λx q=>?_)
   |refine eY0 rfl (λh=>Ah) ?_
   |refine jU (λe=>?_) (λe=>?_)
   |refine ret_i ?_
   |refine fA7 ?_)
  all_goals conv=>whnf
  exact O1
theorem rev_spec(l:List Int)(a:l.length<=1000010):SpIO 53 [.own 3 (l.map I)] (.tup []) 3 (l.reverse.map I):=eH7 rfl Tryz.func53 Ac Ac (rev_vc l a)
end Go.Proofs.Led
