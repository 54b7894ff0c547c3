/-
  The genealogy's node, climb, Path, Heat.
-/
import Derived.Test.YtdjgbagnajikeaaGreatDoorSGW7
set_option linter.unusedVariables false
set_option linter.unusedSimpArgs false
set_option maxRecDepth 100000
set_option maxHeartbeats 8000000
noncomputable section
namespace Go.Proofs.Led
open Go Go.Proofs Go.Ab
abbrev SzN(f:List Node):Prop:=∀x∈f,x.size<=9223372036854775807
theorem nodeN_spec(f:List Node)(n:Int)(hl:f.length<=1000000)(hz:SzN f)(h:¬RightF f):Sp 44 [.sl (f.map nodeV),I n] (.tup [nodeV node0,I 1]):=by
 refine zsp Tryz.func44 ?_;have h1:=rightG_spec f hl hz;generalize RightF f=P at*;exact KO
theorem nodeM_spec(f:List Node)(n:Int)(hl:f.length<=1000000)(hz:SzN f)(h:RightF f)(hn:getN f n=none):Sp 44 [.sl (f.map nodeV),I n] (.tup [nodeV node0,I 8]):=by
 refine zsp Tryz.func44 ?_;have h1:=rightG_spec f hl hz;have h2:=findN_spec f n hl h.so
 have hno:¬∃m∈f,m.id=n:=fun⟨m,hm,e⟩=>getN_none.1 hn m hm e;generalize RightF f=P at*;generalize bs Node.id f n=j at*;generalize (∃m∈f,m.id=n)=Q at*;exact KO
theorem nodeY_spec(f:List Node)(n:Int)(x:Node)(hl:f.length<=1000000)(hz:SzN f)(h:RightF f)(hn:getN f n=some x):Sp 44 [.sl (f.map nodeV),I n] (.tup [nodeV x,I 0]):=by
 refine zsp Tryz.func44 ?_;have h1:=rightG_spec f hl hz;have h2:=findN_spec f n hl h.so
 have hyes:∃m∈f,m.id=n:=getN_ex.2 ⟨x,hn⟩;have hb:=getN_bs h.so hn
 have hbl:=(List.getElem?_eq_some_iff.1 hb).1;have hll:(f.map nodeV).length=f.length:=Ae
 clear hn;generalize RightF f=P at*;generalize bs Node.id f n=j at*;generalize (∃m∈f,m.id=n)=Q at*;exact KO
def clbSt(f:List Node)(y:Node)(D:List Node):St:=mkSt [(0, .sl (f.map nodeV)),(3, .box 3 0),(5, .arr 9 D.length)] [(3,nodeC y)] [(9,⟨D.length, .own,42,(D++[y]).map nodeV⟩)]
theorem climbL_spec(f:List Node)(x:Node)(hl:f.length<=1000000)(h:RightF f)(hx:x∈f):Sp 52 [.sl (f.map nodeV),nodeV x] (.own 42 ((chN f x).map nodeV)):=by
 refine zsp Tryz.func52 ?_;have hll:(f.map nodeV).length=f.length:=Ae;have hcl:=ch_le (f:=f) (x:=x)
 repeat' ((conv=>whnf);first|refine zS ?_|refine zm (fun x hx=>?_)|refine zT ?_ ?_<;>intro _|fail)
 refine aU (A:=Node) (B:=List Node) (fun y D=>clbSt f y D) (fun y D=>y∈f/\chN f x=D++chN f y) (fun y D=>(chN f y).length) x [] ?_ ⟨hx,rfl⟩ (fun y D hp=>?_)
 ·show Le T _ (mkSt [(0, .sl (f.map nodeV)),(3, .box 3 0),(5, .arr 9 0)] [(3,nodeC x)] [(9,⟨0, .own,42,[nodeV x]⟩)])
  exact zj
 obtain⟨hy,hp⟩:=hp;by_cases h0:y.parent=0
 ·rw[hp,ch_root h0]
  exact KP
 obtain⟨z,q1,q2,q3,q4,q5⟩:=par_get h hy h0;have h1:=findN_spec f y.parent hl h.so;have hex:∃m∈f,m.id=y.parent:=getN_ex.2 ⟨z,q1⟩
 have hb:=getN_bs h.so q1;have hbl:=(List.getElem?_eq_some_iff.1 hb).1
 have hDn:D.length<=f.length+1:=by have:=congrArg List.length hp;rw[List.length_append]at this;omega
 have hm:(chN f z).length< (chN f y).length:=by rw[q5];simp
 have hq:chN f x=(D++[y])++chN f z:=by rw[hp,q5];simp
 clear q1 q4;generalize bs Node.id f y.parent=j at*;generalize (∃m∈f,m.id=y.parent)=Q at*;unfold clbSt;have hML:(D++[y]).length=D.length+1:=Ae;generalize D++[y] =M at*;have hDl:(M.map nodeV).length=D.length+1:=by simpa using hML
 repeat' ((conv=>whnf);first|(exfalso;omega)|(exfalso;contradiction)|refine iH rfl (.inl rfl) rfl (of_decide_eq_true rfl) (dA rfl) (show(M.map nodeV).length+1<=1000000000 from Aa) ?_|refine zS ?_|refine zm (fun x hx=>?_)|refine zT ?_ ?_<;>intro _|fail)
 all_goals conv=>whnf
 refine⟨(z,M),?_,⟨q2,hq⟩,hm⟩;show Le T _ (mkSt [(0, .sl (f.map nodeV)),(3, .box 3 0),(5, .arr 9 M.length)] [(3,nodeC z)] [(9,⟨M.length, .own,42,(M++[z]).map nodeV⟩)]);rw[List.map_append,hML];exact zj
def htSt(f:List Node)(s:ByteArray)(D:List Node)(X:List Int):St:=mkSt [(0, .sl (f.map nodeV)),(1,S s),(5, .arr 30 X.length),(11, .sl (f.map nodeV)),(12,I f.length),(13,I D.length)] [] [(30,⟨X.length, .own,3,X.map I⟩)]
def heatP(s:ByteArray)(x:Node):Prop:=x.kind=3/\x.heat=s
def heatL(s:ByteArray)(f:List Node):List Int:=(f.filter fun x=>decB (heatP s x)).map Node.id
theorem heat_snoc(s:ByteArray)(D:List Node)(x:Node):heatL s (D++[x])=heatL s D++if decB (heatP s x)=true then [x.id]else [] :=by
 unfold heatL;rw[List.filter_append,List.map_append];congr 1;rw[List.filter_cons];split<;>rfl
theorem heatN_spec(f:List Node)(s:ByteArray)(hl:f.length<=1000000)(hz:SzN f)(h:¬RightF f):Sp 32 [.sl (f.map nodeV),S s] (.lit (.slice none 0 0)):=by
 refine zsp Tryz.func32 ?_;have h1:=rightG_spec f hl hz;generalize RightF f=P at*;exact KO
theorem heatY_spec(f:List Node)(s:ByteArray)(hl:f.length<=1000000)(hz:SzN f)(h:RightF f):Sp 32 [.sl (f.map nodeV),S s] (.own 3 ((heatL s f).map I)):=by
 refine zsp Tryz.func32 ?_;have h1:=rightG_spec f hl hz;have hll:(f.map nodeV).length=f.length:=Ae
 generalize RightF f=P at*
 repeat' ((conv=>whnf);first|(exfalso;contradiction)|refine zS ?_|refine zm (fun x hx=>?_)|refine zT ?_ ?_<;>intro _|fail)
 refine aU (A:=List Node) (B:=List Node) (fun D R=>htSt f s D (heatL s D)) (fun D R=>f=D++R) (fun D R=>R.length) [] f ?_ rfl (fun D R hp=>?_)
 ·show Le T _ (mkSt [(0, .sl (f.map nodeV)),(1,S s),(5, .arr 30 0),(11, .sl (f.map nodeV)),(12,I f.length),(13,I 0)] [] [(30,⟨0, .own,3,[]⟩)])
  rw[<-hll];exact zj
 cases R with
 |nil=>
  have hlen:f.length=D.length:=Af;have eD:f=D:=Af
  rw[eD];rw[eD]at hll;exact KP
 |cons x R=>
  have hlen:=aO hp;have hlD:((D++[x]).length:Int)=(D.length:Int)+1:=Ae
  have hs:=heat_snoc s D x;have hX:(heatL s D).length<=D.length:=C9
  have hXm:((heatL s D).map I).length=(heatL s D).length:=Ae;have hr:heatP s x↔x.kind=3/\x.heat=s:=Iff.rfl
  generalize heatL s D=X at*;generalize heatP s x=q at*
  repeat' ((conv=>whnf);first|(exfalso;omega)|refine jI (fun heq=>?_) (fun heq=>?_)|refine iH rfl (.inl rfl) rfl (of_decide_eq_true rfl) (dA rfl) (show(X.map I).length+1<=1000000000 from Aa) ?_|refine zS ?_|refine zm (fun x hx=>?_)|refine zT ?_ ?_<;>intro _|fail)
  all_goals conv=>whnf
  all_goals (refine⟨(D++[x],R),?_,Af,Ae⟩)
  all_goals (show Le T _ (htSt f s (D++[x]) (heatL s (D++[x]))))
  all_goals first
   |(rw[hs,if_pos (dH.2 (hr.2 ⟨Ad,Ad⟩))]
     show Le T _ (mkSt [(0, .sl (f.map nodeV)),(1,S s),(5, .arr 30 (X++[x.id]).length),(11, .sl (f.map nodeV)),(12,I f.length),(13,I ((D++[x]).length:Nat))] [] [(30,⟨(X++[x.id]).length, .own,3,(X++[x.id]).map I⟩)]);rw[hlD,List.map_append,List.length_append,List.length_singleton];refine dV ?_ ?_ ?_ ?_;all_goals repeat' (first|exact trivial|refine And.intro ?_ ?_|with_reducible rfl|exact(fun h=>Ag)|exact Nat.le_refl _|omega|exact rfl))
   |(rw[hs,if_neg (fun e=>absurd (hr.1 (dH.1 e)) (fun e2=>Bf)),List.append_nil]
     show Le T _ (mkSt [(0, .sl (f.map nodeV)),(1,S s),(5, .arr 30 X.length),(11, .sl (f.map nodeV)),(12,I f.length),(13,I ((D++[x]).length:Nat))] [] [(30,⟨X.length, .own,3,X.map I⟩)]);rw[hlD];refine dV ?_ ?_ ?_ ?_;all_goals repeat' (first|exact trivial|refine And.intro ?_ ?_|with_reducible rfl|exact(fun h=>Ag)|exact Nat.le_refl _|omega|exact rfl))
def revSt(D M E:List Int):St:=mkSt [(0, .arr 0 0),(2,I D.length),(3,I ((D.length:Int)+M.length-1))] [] [(0,⟨0, .own,3,(D++M++E).map I⟩)]
theorem rev_swap{D M1 E:List Int}{x y:Int}{a b:Nat}(ha:a=D.length)(hb:b=D.length+M1.length+1):((List.map I (D++x::(M1++[y])++E)).set a (I y)).set b (I x)=(D++[y] ++M1++x::E).map I:=by
 rw[show D++x::(M1++[y])++E=D++x::(M1++y::E) by simp,List.map_append,List.map_cons,set_mid (by simpa using ha),<-List.map_cons,<-List.map_append,show D++y::(M1++y::E)=(D++y::M1)++y::E by simp,List.map_append,List.map_cons,set_mid (by simp;omega),<-List.map_cons,<-List.map_append]
 simp
theorem rev_vc(l:List Int)(hl:l.length<=1000010):fnIO T Tryz.prog Tryz.f53 [.own 3 (l.map I)] (.tup []) 0 3 (l.reverse.map I):=by
 have hll:(l.map I).length=l.length:=by simp
 repeat' ((conv=>whnf);first
  |refine eY7 ?_
  |refine eZ1 (by kernel_rfl) ?_
  |refine eH4 (by omega) ?_
  |refine bW7 ?_
  |refine fU (p:=(T.row _).eq=true) (by kernel_rfl) ?_
  |refine fU (by omega) ?_
  |refine fU rfl ?_
  |refine eZ2 ?_
  |refine eZ0 (fun hd=>?_) (fun hd=>?_)
  |refine br_lt (fun hlt=>?_) (fun hlt=>?_)
  |refine br_le (fun hle=>?_) (fun hle=>?_)
  |refine eV7 (fun heq=>?_) (fun heq=>?_)
  |refine eQ9 (by omega) (fun x hx=>?_)
  |refine eY0 rfl (fun h=>by cases h) ?_
  |refine jU (fun hbb=>?_) (fun hbb=>?_)
  |refine ret_i ?_
  |refine fA7 ?_)
 refine oU (A:=List Int) (B:=List Int) (C:=List Int) (fun D M E=>revSt D M E) (fun D M E=>l.reverse=D++M.reverse++E/\E.length=D.length) (fun D M E=>M.length) [] l [] ?_ ⟨by simp,rfl⟩ (fun D M E hp=>?_)
 ·show Le T _ (mkSt [(0, .arr 0 0),(2,I 0),(3,I ((0:Int)+l.length-1))] [] [(0,⟨0, .own,3,([] ++l++[]).map I⟩)])
  rw[List.nil_append,List.append_nil,<-hll,Int.zero_add]
  refine dV ?_ ?_ ?_ ?_
  all_goals repeat' (first|exact trivial|refine And.intro ?_ ?_|with_reducible rfl|exact(fun h=>by cases h)|exact Nat.le_refl _|omega|exact rfl)
  exact w_in (by simp;omega)
 obtain⟨hp,hE⟩:=hp
 have hn:l.length=D.length+M.length+E.length:=by have:=congrArg List.length hp;simp at this;omega
 have hfin:M.length<=1->(D++M++E)=l.reverse:=fun h=>by
  rw[hp]
  match M,h with
  | [],_=>simp
  | [x],_=>simp
 rcases Nat.lt_or_ge 1 M.length with hM|hM
 ·obtain⟨x,M1,y,rfl⟩:∃x M1 y,M=x::(M1++[y]):=by
   match M,hM with
   |x::z::r,_=>exact⟨x,(z::r).dropLast,(z::r).getLast (by simp),by rw[List.dropLast_concat_getLast]⟩
  have hML:(x::(M1++[y])).length=M1.length+2:=by simp
  have e1:((D++x::(M1++[y])++E).map I).length=D.length+M1.length+2+E.length:=by simp;omega
  have hL:D++x::(M1++[y])++E=(D++x::M1)++y::E:=by simp
  have hL0:D++x::(M1++[y])++E=D++x::(M1++y::E):=by simp
  have e2:(D++x::(M1++[y])++E).length=D.length+M1.length+2+E.length:=by simpa using e1
  unfold revSt
  generalize hLL:D++x::(M1++[y])++E=L at*
  rw[hML]at hn hM
  rw[hML]
  repeat' ((conv=>whnf);first
   |(exfalso;omega)
   |refine cC0 [(0,77777),(2,999),(3,999),(14,77777),(15,999),(16,77777),(17,999),(18,77777),(19,999),(20,77777),(22,77777),(23,999),(24,77777),(26,77777),(27,77777)] (by repeat' (first|exact trivial|exact rfl|refine And.intro ?_ ?_)) (by decide+kernel) ?_
   |(refine dY5 (l:=L) rfl (fun h=>by cases h) rfl ?_ ?_;focus (constructor<;>omega))
   |refine cQ9 (by omega) ?_
   |(refine dX6 (l:=L) rfl (fun h=>by cases h) rfl ?_ ?_;focus (constructor<;>omega))
   |refine aF (l:=L) (A:=D++x::M1) (x:=y) (B:=E) hL (by simp;omega) ?_
   |refine aF (l:=L) (A:=D) (x:=x) (B:=M1++y::E) hL0 (by omega) ?_
   |refine dB8 rfl rfl ?_
   |refine eY7 ?_
   |refine eZ1 (by kernel_rfl) ?_
   |refine eH4 (by omega) ?_
   |refine bW7 ?_
   |refine fU (p:=(T.row _).eq=true) (by kernel_rfl) ?_
   |refine fU (by omega) ?_
   |refine fU rfl ?_
   |refine eZ2 ?_
   |refine eZ0 (fun hd=>?_) (fun hd=>?_)
   |refine br_lt (fun hlt=>?_) (fun hlt=>?_)
   |refine br_le (fun hle=>?_) (fun hle=>?_)
   |refine eV7 (fun heq=>?_) (fun heq=>?_)
   |refine eQ9 (by omega) (fun x hx=>?_)
   |refine eY0 rfl (fun h=>by cases h) ?_
   |refine jU (fun hbb=>?_) (fun hbb=>?_)
   |refine ret_i ?_
   |refine fA7 ?_)
  all_goals conv=>whnf
  refine⟨(D++[y],M1,x::E),?_,⟨by rw[hp];simp,by simp;omega⟩,by simp⟩
  show Le T _ (mkSt [(0, .arr 0 0),(2,I ((D++[y]).length:Nat)),(3,I (((D++[y]).length:Nat)+M1.length-1))] [] [(0,⟨0, .own,3,(D++[y] ++M1++x::E).map I⟩)])
  refine dV ?_ ?_ ?_ ?_
  all_goals repeat' (first|exact trivial|refine And.intro ?_ ?_|with_reducible rfl|exact(fun h=>by cases h)|exact Nat.le_refl _|omega|exact rfl)
  all_goals first
   |(rw[<-hLL];exact rev_swap (by omega) (by omega))
   |(exact w_in (by omega))
   |(simp only[List.length_append,List.length_singleton];omega)
   |skip
 ·have hM1:(D++M++E)=l.reverse:=hfin (by omega)
  unfold revSt
  rw[hM1]
  repeat' ((conv=>whnf);first
   |(exfalso;omega)
   |refine eY7 ?_
   |refine eZ1 (by kernel_rfl) ?_
   |refine eH4 (by omega) ?_
   |refine bW7 ?_
   |refine fU (p:=(T.row _).eq=true) (by kernel_rfl) ?_
   |refine fU (by omega) ?_
   |refine fU rfl ?_
   |refine eZ2 ?_
   |refine eZ0 (fun hd=>?_) (fun hd=>?_)
   |refine br_lt (fun hlt=>?_) (fun hlt=>?_)
   |refine br_le (fun hle=>?_) (fun hle=>?_)
   |refine eV7 (fun heq=>?_) (fun heq=>?_)
   |refine eQ9 (by omega) (fun x hx=>?_)
   |refine eY0 rfl (fun h=>by cases h) ?_
   |refine jU (fun hbb=>?_) (fun hbb=>?_)
   |refine ret_i ?_
   |refine fA7 ?_)
  all_goals conv=>whnf
  refine cA7 ?_
  conv=>whnf
  exact⟨[],rfl,⟨⟨rfl,rfl,rfl,rfl⟩,trivial⟩,rfl⟩
theorem rev_spec(l:List Int)(hl:l.length<=1000010):SpIO 53 [.own 3 (l.map I)] (.tup []) 3 (l.reverse.map I):=eH7 rfl Tryz.func53 (by kernel_rfl) (by kernel_rfl) (rev_vc l hl)
end Go.Proofs.Led
