/- Lemmas. -/
import Derived.Test.YtecbpikbjfihmaaGreatDoorSGW7
set_option linter.all false
set_option autoImplicit true
set_option relaxedAutoImplicit true
set_option maxRecDepth 100000
set_option maxHeartbeats 8000000
noncomputable section
namespace Go.Proofs.Led
open Go Go.Proofs Go.Ab Tryz
abbrev SzN(f:List Node):Prop:=∀x∈f,x.size<=9223372036854775807
def nodeY_spec f n x(b:f.length<=1000000)(i:SzN f)(h:RightF f)(a:getN f n=some x):Sp 30 [.sl (f.map nodeV),I n] (.tup [nodeV x,I 0]):=by
 refine zsp func30 ?_;have k:=rightG_spec f b i;have l:=findN_spec f n b h.so;have c:=getN_ex.2 ⟨x,a⟩;have d:=getN_bs h.so a;have e:=(QW.1 d).1;have g:(f.map nodeV).length=f.length:=Ad;generalize (∃m∈f,m.id=n)=Q at*;repeat' (first|(contradiction)|refine zS ?_|refine zm (λx o=>?_)|refine zT ?_ ?_<;>intro _|fail)
 all_goals exact zE
def clbSt(f:List Node)(y:Node)(D:List Node):St:=mkSt [(0, .sl (f.map nodeV)),(3, .box 3 0),(5, .arr 9 D.length)] [(3,nodeC y)] [(9,⟨D.length, .own,40,(D++[y]).map nodeV⟩)]
def climbL_spec f x(q:f.length<=1000000)(h:RightF f)(hx:x∈f):Sp 31 [.sl (f.map nodeV),nodeV x] (.own 40 ((chN f x).map nodeV)):=by
 refine zsp func31 ?_;have r:(f.map nodeV).length=f.length:=Ad;have n:=ch_le (f:=f) (x:=x);repeat' ((conv=>whnf);first|refine zS ?_|refine zm (λx hx=>?_)|refine zT ?_ ?_<;>intro _|fail)
 refine aU (A:=Node) (B:=List Node) (λy D=>clbSt f y D) (λy D=>y∈f/\chN f x=D++chN f y) (λy D=>(chN f y).length) x [] ?_ ⟨hx,rfl⟩ (λy D b=>?_);show Le T _ (mkSt [(0, .sl (f.map nodeV)),(3, .box 3 0),(5, .arr 9 0)] [(3,nodeC x)] [(9,⟨0, .own,40,[nodeV x]⟩)]);exact zj;let⟨u,b⟩:=b;by_cases d:y.parent=0;rw[b,ch_root d];exact Nj;let⟨z,c,v,E,w,e⟩:=par_get h u d;have C:=findN_spec f y.parent q h.so;have o:=getN_ex.2 ⟨z,c⟩;have k:=getN_bs h.so c;have l:=(QW.1 k).1;have i:D.length<=f.length+1:=by have:=RI List.length b;rw[QY]at this;omega
 have s:(chN f z).length< (chN f y).length:=by rw[e];simp
 have t:chN f x=(D++[y])++chN f z:=by rw[b,e];simp
 clear c w;generalize bs Node.id f y.parent=j at*;generalize (∃m∈f,m.id=y.parent)=Q at*;unfold clbSt;have a:(D++[y]).length=D.length+1:=Ad;generalize D++[y] =M at*;have g:(M.map nodeV).length=D.length+1:=by simpa using a
 repeat' ((conv=>whnf);first|omega|(exfalso;contradiction)|refine iH rfl (.inl rfl) rfl (QV rfl) (dA rfl) (show(M.map nodeV).length+1<=1000000000 from Aa) ?_|refine zS ?_|refine zm (λx hx=>?_)|refine zT ?_ ?_<;>intro _|fail)
 all_goals conv=>whnf
 refine⟨(z,M),?_,⟨v,t⟩,s⟩;show Le T _ (mkSt [(0, .sl (f.map nodeV)),(3, .box 3 0),(5, .arr 9 M.length)] [(3,nodeC z)] [(9,⟨M.length, .own,40,(M++[z]).map nodeV⟩)]);rw[RH,a];exact zj
def htSt(f:List Node)(s:ByteArray)(D:List Node)(X:List Int):St:=mkSt [(0, .sl (f.map nodeV)),(1,S s),(5, .arr 30 X.length),(11, .sl (f.map nodeV)),(12,I f.length),(13,I D.length)] [] [(30,⟨X.length, .own,3,X.map I⟩)]
def heatP(s:ByteArray)(x:Node):Prop:=x.kind=3/\x.heat=s
def heatL(s:ByteArray)(f:List Node):List Int:=(f.filter λx=>decB (heatP s x)).map Node.id
def heat_snoc(s:ByteArray)(D:List Node)(x:Node):heatL s (D++[x])=heatL s D++if decB (heatP s x)=true then [x.id]else [] :=by
 unfold heatL;rw[List.filter_append,RH];congr 1;rw[List.filter_cons];split<;>rfl
def heatY_spec(f:List Node)(s:ByteArray)(m:f.length<=1000000)(n:SzN f)(h:RightF f):Sp 12 [.sl (f.map nodeV),S s] (.own 3 ((heatL s f).map I)):=by
 refine zsp func12 ?_;have o:=rightG_spec f m n;have c:(f.map nodeV).length=f.length:=Ad;generalize RightF f=P at*;repeat' ((conv=>whnf);first|(exfalso;contradiction)|refine zS ?_|refine zm (λx hx=>?_)|refine zT ?_ ?_<;>intro _|fail)
 refine aU (A:=List Node) (B:=List Node) (λD R=>htSt f s D (heatL s D)) (λD R=>f=D++R) (λD R=>R.length) [] f ?_ rfl (λD R hp=>?_);show Le T _ (mkSt [(0, .sl (f.map nodeV)),(1,S s),(5, .arr 30 0),(11, .sl (f.map nodeV)),(12,I f.length),(13,I 0)] [] [(30,⟨0, .own,3,[]⟩)]);rw[<-c];exact zj;cases R with
 |nil=>
  have b:f.length=D.length:=Ae;have i:f=D:=Ae;rw[i];rw[i]at c;exact Nj
 |cons x R=>
  have b:=aO hp;have a:((D++[x]).length:Int)=(D.length:Int)+1:=Ad;have k:=heat_snoc s D x;have r:(heatL s D).length<=D.length:=Dw;have l:((heatL s D).map I).length=(heatL s D).length:=Ad;have j:heatP s x↔x.kind=3/\x.heat=s:=RU;generalize heatL s D=X at*;generalize heatP s x=q at*;repeat' ((conv=>whnf);first|omega|refine jI (λd=>?_) (λd=>?_)|refine iH rfl (.inl rfl) rfl (QV rfl) (dA rfl) (show(X.map I).length+1<=1000000000 from Aa) ?_|refine zS ?_|refine zm (λx hx=>?_)|refine zT ?_ ?_<;>intro _|fail)
  all_goals conv=>whnf
  all_goals (refine⟨(D++[x],R),?_,Ae,Ad⟩)
  all_goals (show Le T _ (htSt f s (D++[x]) (heatL s (D++[x]))))
  all_goals first
   |(rw[k,QU (dH.2 (j.2 ⟨Ag,Ag⟩))]
     show Le T _ (mkSt [(0, .sl (f.map nodeV)),(1,S s),(5, .arr 30 (X++[x.id]).length),(11, .sl (f.map nodeV)),(12,I f.length),(13,I ((D++[x]).length:Nat))] [] [(30,⟨(X++[x.id]).length, .own,3,(X++[x.id]).map I⟩)]);rw[a,RH,QY,Rj];refine dV ?_ ?_ ?_ ?_;all_goals repeat' (first|exact trivial|refine And.intro ?_ ?_|with_reducible rfl|exact(λh=>Ah)|exact Rf _|omega|exact rfl))
   |(rw[k,Q9 (λe=>absurd (j.1 (dH.1 e)) (λg=>by first|exact absurd g.1 (by assumption)|exact absurd g.2 (by assumption))),Rq]
     show Le T _ (mkSt [(0, .sl (f.map nodeV)),(1,S s),(5, .arr 30 X.length),(11, .sl (f.map nodeV)),(12,I f.length),(13,I ((D++[x]).length:Nat))] [] [(30,⟨X.length, .own,3,X.map I⟩)]);rw[a];refine dV ?_ ?_ ?_ ?_;all_goals repeat' (first|exact trivial|refine And.intro ?_ ?_|with_reducible rfl|exact(λh=>Ah)|exact Rf _|omega|exact rfl))
def revSt(D M E:List Int):St:=mkSt [(0, .arr 0 0),(2,I D.length),(3,I ((D.length:Int)+M.length-1))] [] [(0,⟨0, .own,3,(D++M++E).map I⟩)]
def rev_swap(d:a=D.length)(e:b=D.length+c.length+1):((List.map I (D++x::(c++[y])++E)).set a (I y)).set b (I x)=(D++[y] ++c++x::E).map I:=by
 rw[show D++x::(c++[y])++E=D++x::(c++y::E) from Ad,RH,Rt,set_mid (by simpa using d),<-Rt,<-RH,show D++y::(c++y::E)=(D++y::c)++y::E from Ad,RH,Rt,set_mid AY,<-Rt,<-RH];simp
def rev_vc(l:List Int)(F:l.length<=1000010):fnIO T Tryz.prog Tryz.f32 [.own 3 (l.map I)] (.tup []) 0 3 (l.reverse.map I):=by
 have o:(l.map I).length=l.length:=Ad
 repeat' ((conv=>whnf);first
  |refine eY7 ?_
  |refine eZ1 Ac ?_
  |refine eH4 Aa ?_
  |refine bW7 ?_
  |refine fU (p:=(T.row _).eq=true) Ac ?_
  |refine fU Aa ?_
  |refine fU rfl ?_
  |refine eZ2 ?_
  |refine eZ0 (λg=>?_) (λg=>?_)
  |refine br_lt (λe=>?_) (λe=>?_)
  |refine br_le (λd=>?_) (λd=>?_)
  |refine eV7 (λc=>?_) (λc=>?_)
  |refine eQ9 Aa (λx q=>?_)
  |refine eY0 rfl (λh=>Ah) ?_
  |refine jU (λb=>?_) (λb=>?_)
  |refine ret_i ?_
  |refine fA7 ?_)
 refine oU (A:=List Int) (B:=List Int) (C:=List Int) (λD M E=>revSt D M E) (λD M E=>l.reverse=D++M.reverse++E/\E.length=D.length) (λD M E=>M.length) [] l [] ?_ ⟨Ad,rfl⟩ (λD M E hp=>?_)
 ·show Le T _ (mkSt [(0, .arr 0 0),(2,I 0),(3,I ((0:Int)+l.length-1))] [] [(0,⟨0, .own,3,([] ++l++[]).map I⟩)])
  rw[Uj,Rq,<-o,U7];refine dV ?_ ?_ ?_ ?_;all_goals repeat' (first|exact trivial|refine And.intro ?_ ?_|with_reducible rfl|exact(λh=>Ah)|exact Rf _|omega|exact rfl)
  exact w_in AY
 let⟨hp,w⟩:=hp;have u:l.length=D.length+M.length+E.length:=by have:=RI List.length hp;simp at this;omega
 have i:M.length<=1->(D++M++E)=l.reverse:=λh=>by
  rw[hp];match M,h with
  | [],_=>simp
  | [x],_=>simp
 rcases Sj 1 M.length with m|m
 ·obtain⟨x,a,y,rfl⟩:∃x a y,M=x::(a++[y]):=by
   match M,m with
   |x::z::r,_=>exact⟨x,(z::r).dropLast,(z::r).getLast Ad,by rw[List.dropLast_concat_getLast]⟩
  have f:(x::(a++[y])).length=a.length+2:=Ad;have s:((D++x::(a++[y])++E).map I).length=D.length+a.length+2+E.length:=AY;have t:D++x::(a++[y])++E=(D++x::a)++y::E:=Ad;have j:D++x::(a++[y])++E=D++x::(a++y::E):=Ad;have v:(D++x::(a++[y])++E).length=D.length+a.length+2+E.length:=by simpa using s
  unfold revSt;generalize k:D++x::(a++[y])++E=L at*;rw[f]at u m;rw[f]
  repeat' ((conv=>whnf);first
   |omega
   |refine cC0 [(0,77777),(2,999),(3,999),(14,77777),(15,999),(16,77777),(17,999),(18,77777),(19,999),(20,77777),(22,77777),(23,999),(24,77777),(26,77777),(27,77777)] Af Ak ?_
   |(refine dY5 (l:=L) rfl (λh=>Ah) rfl ?_ ?_;focus (constructor<;>omega))
   |refine cQ9 Aa ?_
   |(refine dX6 (l:=L) rfl (λh=>Ah) rfl ?_ ?_;focus (constructor<;>omega))
   |refine aF (l:=L) (A:=D++x::a) (x:=y) (B:=E) t AY ?_
   |refine aF (l:=L) (A:=D) (x:=x) (B:=a++y::E) j Aa ?_
   |refine dB8 rfl rfl ?_
   |refine eY7 ?_
   |refine eZ1 Ac ?_
   |refine eH4 Aa ?_
   |refine bW7 ?_
   |refine fU (p:=(T.row _).eq=true) Ac ?_
   |refine fU Aa ?_
   |refine fU rfl ?_
   |refine eZ2 ?_
   |refine eZ0 (λg=>?_) (λg=>?_)
   |refine br_lt (λe=>?_) (λe=>?_)
   |refine br_le (λd=>?_) (λd=>?_)
   |refine eV7 (λc=>?_) (λc=>?_)
   |refine eQ9 Aa (λx q=>?_)
   |refine eY0 rfl (λh=>Ah) ?_
   |refine jU (λb=>?_) (λb=>?_)
   |refine ret_i ?_
   |refine fA7 ?_)
  all_goals conv=>whnf
  refine⟨(D++[y],a,x::E),?_,⟨Ae,AY⟩,Ad⟩;show Le T _ (mkSt [(0, .arr 0 0),(2,I ((D++[y]).length:Nat)),(3,I (((D++[y]).length:Nat)+a.length-1))] [] [(0,⟨0, .own,3,(D++[y] ++a++x::E).map I⟩)]);refine dV ?_ ?_ ?_ ?_;all_goals repeat' (first|exact trivial|refine And.intro ?_ ?_|with_reducible rfl|exact(λh=>Ah)|exact Rf _|omega|exact rfl)
  all_goals first
   |(rw[<-k];exact rev_swap Aa Aa)
   |(exact w_in Aa)
   |(simp only[QY,Rj];omega)
   |skip
 have n:=i Aa;unfold revSt;rw[n]
 repeat' ((conv=>whnf);first
  |omega
  |refine eY7 ?_
  |refine eZ1 Ac ?_
  |refine eH4 Aa ?_
  |refine bW7 ?_
  |refine fU (p:=(T.row _).eq=true) Ac ?_
  |refine fU Aa ?_
  |refine fU rfl ?_
  |refine eZ2 ?_
  |refine eZ0 (λg=>?_) (λg=>?_)
  |refine br_lt (λe=>?_) (λe=>?_)
  |refine br_le (λd=>?_) (λd=>?_)
  |refine eV7 (λc=>?_) (λc=>?_)
  |refine eQ9 Aa (λx q=>?_)
  |refine eY0 rfl (λh=>Ah) ?_
  |refine jU (λb=>?_) (λb=>?_)
  |refine ret_i ?_
  |refine fA7 ?_)
 all_goals conv=>whnf
 exact OA
def rev_spec(l:List Int)(a:l.length<=1000010):SpIO 32 [.own 3 (l.map I)] (.tup []) 3 (l.reverse.map I):=eH7 rfl func32 Ac Ac (rev_vc l a)
end Go.Proofs.Led
