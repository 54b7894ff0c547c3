/- Lemmas. -/
import Derived.Test.YtiacjkocjejmlaaGreatDoorSGW7
set_option linter.all false
set_option autoImplicit true
set_option relaxedAutoImplicit true
set_option maxRecDepth 100000
set_option maxHeartbeats 8000000
noncomputable section
namespace Go.Proofs.Led
open Go Go.Proofs Go.Ab Tryz
abbrev SzN(f:List Node):Prop:=∀x∈f,x.size<=9223372036854775807
def nodeY_spec f n x(b:f.length<=1000000)(i:SzN f)(h:RightF f)(a:getN f n=some x):Sp 24 [.sl (f.map nodeV),I n] (.tup [nodeV x,I 0]):=by
 refine zsp func24 ?_;have k:=rightG_spec f b i;have l:=findN_spec f n b h.so;have c:=getN_ex.2 ⟨x,a⟩;have d:=getN_bs h.so a;have e:=(QO.1 d).1;have g:(f.map nodeV).length=f.length:=Ad;generalize (∃m∈f,m.id=n)=Q at*;repeat' (first|(contradiction)|refine zS ?_|refine zm (λx o=>?_)|refine zT ?_ ?_<;>intro _|fail)
 all_goals exact zE
def clbSt(f:List Node)(y:Node)(D:List Node):St:=mkSt [(0, .sl (f.map nodeV)),(3, .box 3 0),(5, .arr 9 D.length)] [(3,nodeC y)] [(9,⟨D.length, .own,33,(D++[y]).map nodeV⟩)]
def climbL_spec f x(q:f.length<=1000000)(h:RightF f)(hx:x∈f):Sp 25 [.sl (f.map nodeV),nodeV x] (.own 33 ((chN f x).map nodeV)):=by
 refine zsp func25 ?_;have r:(f.map nodeV).length=f.length:=Ad;have n:=ch_le (f:=f) (x:=x);repeat' ((conv=>whnf);first|refine zS ?_|refine zm (λx hx=>?_)|refine zT ?_ ?_<;>intro _|fail)
 refine aU (A:=Node) (B:=List Node) (λy D=>clbSt f y D) (λy D=>y∈f/\chN f x=D++chN f y) (λy D=>(chN f y).length) x [] ?_ ⟨hx,rfl⟩ (λy D b=>?_);show Le T _ (mkSt [(0, .sl (f.map nodeV)),(3, .box 3 0),(5, .arr 9 0)] [(3,nodeC x)] [(9,⟨0, .own,33,[nodeV x]⟩)]);exact zj;let⟨u,b⟩:=b;by_cases d:y.parent=0;rw[b,ch_root d];exact Nl;let⟨z,c,v,E,w,e⟩:=par_get h u d;have C:=findN_spec f y.parent q h.so;have o:=getN_ex.2 ⟨z,c⟩;have k:=getN_bs h.so c;have l:=(QO.1 k).1;have i:D.length<=f.length+1:=by have:=Rx List.length b;rw[QS]at this;omega
 have s:(chN f z).length< (chN f y).length:=by rw[e];simp
 have t:chN f x=(D++[y])++chN f z:=by rw[b,e];simp
 clear c w;generalize bs Node.id f y.parent=j at*;generalize (∃m∈f,m.id=y.parent)=Q at*;unfold clbSt;have a:(D++[y]).length=D.length+1:=Ad;generalize D++[y] =M at*;have g:(M.map nodeV).length=D.length+1:=by simpa using a
 repeat' ((conv=>whnf);first|omega|(exfalso;contradiction)|refine iH rfl (.inl rfl) rfl (QN rfl) (dA rfl) (show(M.map nodeV).length+1<=1000000000 from Aa) ?_|refine zS ?_|refine zm (λx hx=>?_)|refine zT ?_ ?_<;>intro _|fail)
 all_goals conv=>whnf
 refine⟨(z,M),?_,⟨v,t⟩,s⟩;show Le T _ (mkSt [(0, .sl (f.map nodeV)),(3, .box 3 0),(5, .arr 9 M.length)] [(3,nodeC z)] [(9,⟨M.length, .own,33,(M++[z]).map nodeV⟩)]);rw[Rz,a];exact zj
def revSt(D M E:List Int):St:=mkSt [(0, .arr 0 0),(2,I D.length),(3,I ((D.length:Int)+M.length-1))] [] [(0,⟨0, .own,3,(D++M++E).map I⟩)]
def rev_swap(d:a=D.length)(e:b=D.length+c.length+1):((List.map I (D++x::(c++[y])++E)).set a (I y)).set b (I x)=(D++[y] ++c++x::E).map I:=by
 rw[show D++x::(c++[y])++E=D++x::(c++y::E) from Ad,Rz,QZ,set_mid (by simpa using d),<-QZ,<-Rz,show D++y::(c++y::E)=(D++y::c)++y::E from Ad,Rz,QZ,set_mid AZ,<-QZ,<-Rz];simp
def rev_vc(l:List Int)(F:l.length<=1000010):fnIO T Tryz.prog Tryz.f26 [.own 3 (l.map I)] (.tup []) 0 3 (l.reverse.map I):=by
 have o:(l.map I).length=l.length:=Ad
 repeat' ((conv=>whnf);first
  |refine eY7 ?_
  |refine eZ1 Ac ?_
  |refine eH4 Aa ?_
  |refine bW7 ?_
  |refine fU (p:=(T.row _).eq=true) Ac ?_
  |refine fU Aa ?_
  |refine fU rfl ?_
  |refine eZ2 ?_
  |refine eZ0 (λg=>?_) (λg=>?_)
  |refine br_lt (λe=>?_) (λe=>?_)
  |refine br_le (λd=>?_) (λd=>?_)
  |refine eV7 (λc=>?_) (λc=>?_)
  |refine eQ9 Aa (λx q=>?_)
  |refine eY0 rfl (λh=>Ah) ?_
  |refine jU (λb=>?_) (λb=>?_)
  |refine ret_i ?_
  |refine fA7 ?_)
 refine oU (A:=List Int) (B:=List Int) (C:=List Int) (λD M E=>revSt D M E) (λD M E=>l.reverse=D++M.reverse++E/\E.length=D.length) (λD M E=>M.length) [] l [] ?_ ⟨Ad,rfl⟩ (λD M E hp=>?_)
 ·show Le T _ (mkSt [(0, .arr 0 0),(2,I 0),(3,I ((0:Int)+l.length-1))] [] [(0,⟨0, .own,3,([] ++l++[]).map I⟩)])
  rw[Ud,Rk,<-o,UI];refine dV ?_ ?_ ?_ ?_;all_goals repeat' (first|exact trivial|refine And.intro ?_ ?_|with_reducible rfl|exact(λh=>Ah)|exact QU _|omega|exact rfl)
  exact w_in AZ
 let⟨hp,w⟩:=hp;have u:l.length=D.length+M.length+E.length:=by have:=Rx List.length hp;simp at this;omega
 have i:M.length<=1->(D++M++E)=l.reverse:=λh=>by
  rw[hp];match M,h with
  | [],_=>simp
  | [x],_=>simp
 rcases RU 1 M.length with m|m
 ·obtain⟨x,a,y,rfl⟩:∃x a y,M=x::(a++[y]):=by
   match M,m with
   |x::z::r,_=>exact⟨x,(z::r).dropLast,(z::r).getLast Ad,by rw[List.dropLast_concat_getLast]⟩
  have f:(x::(a++[y])).length=a.length+2:=Ad;have s:((D++x::(a++[y])++E).map I).length=D.length+a.length+2+E.length:=AZ;have t:D++x::(a++[y])++E=(D++x::a)++y::E:=Ad;have j:D++x::(a++[y])++E=D++x::(a++y::E):=Ad;have v:(D++x::(a++[y])++E).length=D.length+a.length+2+E.length:=by simpa using s
  unfold revSt;generalize k:D++x::(a++[y])++E=L at*;rw[f]at u m;rw[f]
  repeat' ((conv=>whnf);first
   |omega
   |refine cC0 [(0,77777),(2,999),(3,999),(14,77777),(15,999),(16,77777),(17,999),(18,77777),(19,999),(20,77777),(22,77777),(23,999),(24,77777),(26,77777),(27,77777)] Af Am ?_
   |(refine dY5 (l:=L) rfl (λh=>Ah) rfl ?_ ?_;focus (constructor<;>omega))
   |refine cQ9 Aa ?_
   |(refine dX6 (l:=L) rfl (λh=>Ah) rfl ?_ ?_;focus (constructor<;>omega))
   |refine aF (l:=L) (A:=D++x::a) (x:=y) (B:=E) t AZ ?_
   |refine aF (l:=L) (A:=D) (x:=x) (B:=a++y::E) j Aa ?_
   |refine dB8 rfl rfl ?_
   |refine eY7 ?_
   |refine eZ1 Ac ?_
   |refine eH4 Aa ?_
   |refine bW7 ?_
   |refine fU (p:=(T.row _).eq=true) Ac ?_
   |refine fU Aa ?_
   |refine fU rfl ?_
   |refine eZ2 ?_
   |refine eZ0 (λg=>?_) (λg=>?_)
   |refine br_lt (λe=>?_) (λe=>?_)
   |refine br_le (λd=>?_) (λd=>?_)
   |refine eV7 (λc=>?_) (λc=>?_)
   |refine eQ9 Aa (λx q=>?_)
   |refine eY0 rfl (λh=>Ah) ?_
   |refine jU (λb=>?_) (λb=>?_)
   |refine ret_i ?_
   |refine fA7 ?_)
  all_goals conv=>whnf
  refine⟨(D++[y],a,x::E),?_,⟨Ae,AZ⟩,Ad⟩;show Le T _ (mkSt [(0, .arr 0 0),(2,I ((D++[y]).length:Nat)),(3,I (((D++[y]).length:Nat)+a.length-1))] [] [(0,⟨0, .own,3,(D++[y] ++a++x::E).map I⟩)]);refine dV ?_ ?_ ?_ ?_;all_goals repeat' (first|exact trivial|refine And.intro ?_ ?_|with_reducible rfl|exact(λh=>Ah)|exact QU _|omega|exact rfl)
  all_goals first
   |(rw[<-k];exact rev_swap Aa Aa)
   |(exact w_in Aa)
   |(simp only[QS,QX];omega)
   |skip
 have n:=i Aa;unfold revSt;rw[n]
 repeat' ((conv=>whnf);first
  |omega
  |refine eY7 ?_
  |refine eZ1 Ac ?_
  |refine eH4 Aa ?_
  |refine bW7 ?_
  |refine fU (p:=(T.row _).eq=true) Ac ?_
  |refine fU Aa ?_
  |refine fU rfl ?_
  |refine eZ2 ?_
  |refine eZ0 (λg=>?_) (λg=>?_)
  |refine br_lt (λe=>?_) (λe=>?_)
  |refine br_le (λd=>?_) (λd=>?_)
  |refine eV7 (λc=>?_) (λc=>?_)
  |refine eQ9 Aa (λx q=>?_)
  |refine eY0 rfl (λh=>Ah) ?_
  |refine jU (λb=>?_) (λb=>?_)
  |refine ret_i ?_
  |refine fA7 ?_)
 all_goals conv=>whnf
 exact O5
def rev_spec(l:List Int)(a:l.length<=1000010):SpIO 26 [.own 3 (l.map I)] (.tup []) 3 (l.reverse.map I):=eH7 rfl func26 Ac Ac (rev_vc l a)
end Go.Proofs.Led
