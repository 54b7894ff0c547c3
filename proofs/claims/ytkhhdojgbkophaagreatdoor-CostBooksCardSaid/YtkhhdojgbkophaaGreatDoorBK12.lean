/-
  Stable sorting, walked: swapping of ranges, rotation.
-/
import Derived.Test.YtkhhdojgbkophaaGreatDoorBK11
set_option linter.unusedVariables false
set_option linter.unusedSimpArgs false
set_option maxRecDepth 100000
noncomputable section
namespace Go.Proofs.Cost58
open Go Go.Proofs Go.Ab Go.Proofs.Led
variable{g:FuncId}{cs:List V}
theorem swap_vc(A X M Y C:List Int)(hXY:X.length=Y.length)(hl:A.length+X.length+M.length+Y.length+C.length<=100000):
 fnIO T Tryz.prog Tryz.f204 [.own 3 ((A++X++M++Y++C).map I),I A.length,I (A.length+X.length+M.length),I X.length, .fn g [.fp cs]] (.tup []) 0 3 ((A++Y++M++X++C).map I):=by
 repeat' ((conv=>whnf);first
  |refine arith_half Aa ?_
  |refine arith_u Aa ?_
  |refine eY7 ?_
  |refine eZ1 Ac ?_
  |refine eH4 Aa ?_
  |refine fU (p:=(T.row _).eq=true) Ac ?_
  |refine fU Aa ?_
  |refine eZ2 ?_
  |refine eZ0 (fun hd=>?_) (fun hd=>?_)
  |refine br_lt (fun hlt=>?_) (fun hlt=>?_)
  |refine br_le (fun hle=>?_) (fun hle=>?_)
  |refine eV7 (fun heq=>?_) (fun heq=>?_)
  |refine eQ9 Aa (fun x hx=>?_)
  |refine eY0 rfl (fun h=>Ad) ?_
  |refine jU (fun hbb=>?_) (fun hbb=>?_)
  |refine ret_i ?_
  |refine fA7 ?_)
 refine lD (A:=Nat) (fun k=>mkSt [(0, .arr 0 0),(1,I A.length),(2,I (A.length+X.length+M.length)),(3,I X.length),(4, .fn g [.fp cs]),(10,I k)] [] [(0,⟨0, .own,3,(A++(Y.take k++X.drop k)++M++(X.take k++Y.drop k)++C).map I⟩)])
  (fun k=>k<=X.length) (fun k=>X.length-k) 0 ?_ Aa (fun k hk=>?_)
 ·exact Il
 ·change k<=X.length at hk
  rcases Nat.lt_or_ge k X.length with hkl|hkl
  ·have hkl':k<Y.length:=by omega
   have hdX:X.drop k=X[k] ::X.drop (k+1):=List.drop_eq_getElem_cons hkl;have htX:X.take (k+1)=X.take k++[X[k]] :=BI
   have hdY:Y.drop k=Y[k] ::Y.drop (k+1):=List.drop_eq_getElem_cons hkl';have htY:Y.take (k+1)=Y.take k++[Y[k]] :=by rw[List.take_add_one,List.getElem?_eq_getElem hkl'];rfl
   have hlX:(X.take k).length=k:=AP;have hlY:(Y.take k).length=k:=AP
   have hlX':(X.drop (k+1)).length=X.length- (k+1):=F7;have hlY':(Y.drop (k+1)).length=X.length- (k+1):=by rw[List.length_drop,hXY]
   generalize X[k] =x at hdX htX;generalize Y[k] =y at hdY htY;obtain⟨X0,hX0⟩:∃z,X.take k=z:=⟨_,rfl⟩;obtain⟨Y0,hY0⟩:∃z,Y.take k=z:=⟨_,rfl⟩;obtain⟨X1,hX1⟩:∃z,X.drop (k+1)=z:=⟨_,rfl⟩;obtain⟨Y1,hY1⟩:∃z,Y.drop (k+1)=z:=⟨_,rfl⟩;rw[hX0]at hlX htX;rw[hY0]at hlY htY;rw[hX1]at hlX' hdX;rw[hY1]at hlY' hdY;rw[hX0,hY0,hdX,hdY];have hsz:(A++(Y0++x::X1)++M++(X0++y::Y1)++C).length=A.length+X.length+M.length+X.length+C.length:=Ai
   repeat' ((conv=>whnf);first
    |refine arith_half Aa ?_
    |refine arith_u Aa ?_
    |(exfalso;omega)
    |(refine dY5 (l:=A++(Y0++x::X1)++M++(X0++y::Y1)++C) rfl (fun h=>Ad) rfl ?_ ?_;focus (constructor<;>omega))
    |refine cQ9 Aa ?_
    |(refine dX6 (l:=A++(Y0++x::X1)++M++(X0++y::Y1)++C) rfl (fun h=>Ad) rfl ?_ ?_;focus (constructor<;>omega))
    |refine aF (l:=A++(Y0++x::X1)++M++(X0++y::Y1)++C) (A:=A++Y0) (x:=x) (B:=X1++M++(X0++y::Y1)++C) Ae Ai ?_
    |refine aF (l:=A++(Y0++x::X1)++M++(X0++y::Y1)++C) (A:=A++(Y0++x::X1)++M++X0) (x:=y) (B:=Y1++C) Ae Ai ?_
    |refine dB8 rfl rfl ?_
    |refine eY7 ?_
    |refine eZ1 Ac ?_
    |refine eH4 Aa ?_
    |refine fU (p:=(T.row _).eq=true) Ac ?_
    |refine fU Aa ?_
    |refine eZ2 ?_
    |refine eZ0 (fun hd=>?_) (fun hd=>?_)
    |refine br_lt (fun hlt=>?_) (fun hlt=>?_)
    |refine br_le (fun hle=>?_) (fun hle=>?_)
    |refine eV7 (fun heq=>?_) (fun heq=>?_)
    |refine eQ9 Aa (fun x hx=>?_)
    |refine eY0 rfl (fun h=>Ad) ?_
    |refine jU (fun hbb=>?_) (fun hbb=>?_)
    |refine ret_i ?_
    |refine fA7 ?_)
   refine⟨k+1,?_,(by show k+1<=X.length;omega),Aa⟩
   rw[htX,htY,hX1,hY1];refine dV ?_ ?_ ?_ ?_;all_goals repeat' (first|exact trivial|refine And.intro ?_ ?_|with_reducible rfl|exact(fun h=>Ad)|exact Nat.le_refl _|omega|exact rfl)
   ·show List.set (List.set (List.map I (A++(Y0++x::X1)++M++(X0++y::Y1)++C)) _ (I y)) _ (I x)=List.map I (A++(Y0++[y] ++X1)++M++(X0++[x] ++Y1)++C)
    rw[show A++(Y0++x::X1)++M++(X0++y::Y1)++C=(A++Y0)++x::(X1++M++(X0++y::Y1)++C) from Ae,List.map_append,List.map_cons,set_mid Ai,<-List.map_cons,<-List.map_append];rw[show(A++Y0)++y::(X1++M++(X0++y::Y1)++C)=(A++Y0++y::X1++M++X0)++y::(Y1++C) from Ae,List.map_append,List.map_cons,set_mid Ai,<-List.map_cons,<-List.map_append];simp
  ·have e1:k=X.length:=by omega
   have e2:Y.take k=Y:=List.take_of_length_le Aa;have e3:X.take k=X:=List.take_of_length_le Aa
   have e4:Y.drop k=[] :=List.drop_eq_nil_of_le Aa;have e5:X.drop k=[] :=List.drop_eq_nil_of_le Aa
   rw[e2,e3,e4,e5]
   repeat' ((conv=>whnf);first
    |refine arith_half Aa ?_
    |refine arith_u Aa ?_
    |(exfalso;omega)
    |refine eY7 ?_
    |refine eZ1 Ac ?_
    |refine eH4 Aa ?_
    |refine fU (p:=(T.row _).eq=true) Ac ?_
    |refine fU Aa ?_
    |refine eZ2 ?_
    |refine eZ0 (fun hd=>?_) (fun hd=>?_)
    |refine br_lt (fun hlt=>?_) (fun hlt=>?_)
    |refine br_le (fun hle=>?_) (fun hle=>?_)
    |refine eV7 (fun heq=>?_) (fun heq=>?_)
    |refine eQ9 Aa (fun x hx=>?_)
    |refine eY0 rfl (fun h=>Ad) ?_
    |refine jU (fun hbb=>?_) (fun hbb=>?_)
    |refine ret_i ?_
    |refine fA7 ?_)
   refine cA7 ?_
   conv=>whnf
   refine⟨[],rfl,⟨⟨rfl,rfl,rfl,?_⟩,trivial⟩,rfl⟩;show List.map I (A++(Y++[])++M++(X++[])++C)=List.map I (A++Y++M++X++C);simp
theorem swap_spec{l l':List Int}{a b n:Int}(A X M Y C:List Int)(hXY:X.length=Y.length)(h:l=A++X++M++Y++C)(h':l'=A++Y++M++X++C)(ha:a=A.length)(hb:b=A.length+X.length+M.length)(hn:n=X.length)(hl:A.length+X.length+M.length+Y.length+C.length<=100000):
 SpIO 204 [.own 3 (l.map I),I a,I b,I n, .fn g [.fp cs]] (.tup []) 3 (l'.map I):=by
 subst h h' ha hb hn;exact eH7 rfl Tryz.func204 Ac Ac (swap_vc A X M Y C hXY hl)
theorem rot_vc(A X Y C:List Int)(hX:0<X.length)(hY:0<Y.length)(hl:A.length+X.length+Y.length+C.length<=100000):
 fnIO T Tryz.prog Tryz.f161 [.own 3 ((A++X++Y++C).map I),I A.length,I (A.length+X.length),I (A.length+X.length+Y.length), .fn g [.fp cs]] (.tup []) 0 3 ((A++Y++X++C).map I):=by
 repeat' ((conv=>whnf);first
  |refine arith_half Aa ?_
  |refine arith_u Aa ?_
  |refine eY7 ?_
  |refine eZ1 Ac ?_
  |refine eH4 Aa ?_
  |refine fU (p:=(T.row _).eq=true) Ac ?_
  |refine fU Aa ?_
  |refine eZ2 ?_
  |refine eZ0 (fun hd=>?_) (fun hd=>?_)
  |refine br_lt (fun hlt=>?_) (fun hlt=>?_)
  |refine br_le (fun hle=>?_) (fun hle=>?_)
  |refine eV7 (fun heq=>?_) (fun heq=>?_)
  |refine eQ9 Aa (fun x hx=>?_)
  |refine eY0 rfl (fun h=>Ad) ?_
  |refine jU (fun hbb=>?_) (fun hbb=>?_)
  |refine ret_i ?_
  |refine fA7 ?_)
 refine loop_4 (A:=List Int) (B:=List Int) (C:=List Int) (D:=List Int) (fun A' X' Y' C'=>mkSt [(0, .arr 0 0),(2,I (A.length+X.length)),(4, .fn g [.fp cs]),(10,I X'.length),(11,I Y'.length)] [] [(0,⟨0, .own,3,(A'++X'++Y'++C').map I⟩)])
  (fun A' X' Y' C'=>A'.length+X'.length=A.length+X.length/\0<X'.length/\0<Y'.length/\A'++Y'++X'++C'=A++Y++X++C/\A'.length+X'.length+Y'.length+C'.length<=100000)
  (fun _ X' Y' _=>X'.length+Y'.length) A X Y C ?_ ⟨rfl,hX,hY,rfl,hl⟩ ?_
 ·exact Il
 ·rintro A' X' Y' C' ⟨h1,h2,h3,h4,h5⟩
  rcases Nat.lt_trichotomy X'.length Y'.length with hlt|heqN|hgt
  ·obtain⟨Y1,Y2,rfl,hy⟩:∃Y1 Y2,Y'=Y1++Y2/\Y2.length=X'.length:=⟨Y'.take (Y'.length-X'.length),Y'.drop (Y'.length-X'.length),Ae,Ai⟩
   have hyl:(Y1++Y2).length=Y1.length+Y2.length:=Ae
   repeat' ((conv=>whnf);first
    |refine arith_half Aa ?_
    |refine arith_u Aa ?_
    |(exfalso;omega)
    |(refine aQ2 (swap_spec (g:=g) (cs:=cs) (l:=A'++X'++(Y1++Y2)++C') (l':=A'++Y2++Y1++X'++C') (a:=A.length+X.length-X'.length) (b:=A.length+X.length+(Y1++Y2).length-X'.length) (n:=X'.length) A' X' Y1 Y2 C' Aa Ae Ae Aa Aa rfl Aa) rfl rfl ?_ rfl rfl ?_;focus ((repeat' (first|exact trivial|refine And.intro ?_ ?_|with_reducible rfl|exact(fun h=>Ad)|exact rfl));done))
    |refine eY7 ?_
    |refine eZ1 Ac ?_
    |refine eH4 Aa ?_
    |refine fU (p:=(T.row _).eq=true) Ac ?_
    |refine fU Aa ?_
    |refine eZ2 ?_
    |refine eZ0 (fun hd=>?_) (fun hd=>?_)
    |refine br_lt (fun hlt=>?_) (fun hlt=>?_)
    |refine br_le (fun hle=>?_) (fun hle=>?_)
    |refine eV7 (fun heq=>?_) (fun heq=>?_)
    |refine eQ9 Aa (fun x hx=>?_)
    |refine eY0 rfl (fun h=>Ad) ?_
    |refine jU (fun hbb=>?_) (fun hbb=>?_)
    |refine ret_i ?_
    |refine fA7 ?_)
   refine⟨(A',Y2,Y1,X'++C'),?_,⟨by show A'.length+Y2.length=_;omega,by show 0<Y2.length;omega,by show 0<Y1.length;omega,?_,?_⟩,?_⟩
   ·refine dV ?_ ?_ ?_ ?_
    all_goals repeat' (first|exact trivial|refine And.intro ?_ ?_|with_reducible rfl|exact(fun h=>Ad)|exact Nat.le_refl _|omega|exact rfl)
    ·show List.map I (A'++Y2++Y1++X'++C')=List.map I (A'++Y2++Y1++(X'++C'))
     simp
    ·show(X'.length:Int)=Y2.length
     omega
    ·show((Y1++Y2).length:Int)-X'.length=Y1.length
     omega
   ·show A'++Y1++Y2++(X'++C')=_
    rw[<-h4];simp
   ·show A'.length+Y2.length+Y1.length+(X'++C').length<=100000
    rw[List.length_append];omega
   ·show Y2.length+Y1.length<X'.length+(Y1++Y2).length
    omega
  ·repeat' ((conv=>whnf);first
    |refine arith_half Aa ?_
    |refine arith_u Aa ?_
    |(exfalso;omega)
    |(refine aQ2 (swap_spec (g:=g) (cs:=cs) (l:=A'++X'++Y'++C') (l':=A'++Y'++X'++C') (a:=A.length+X.length-X'.length) (b:=A.length+X.length) (n:=X'.length) A' X' [] Y' C' heqN Ae Ae Aa Ai rfl Ai) rfl rfl ?_ rfl rfl ?_;focus ((repeat' (first|exact trivial|refine And.intro ?_ ?_|with_reducible rfl|exact(fun h=>Ad)|exact rfl));done))
    |refine eY7 ?_
    |refine eZ1 Ac ?_
    |refine eH4 Aa ?_
    |refine fU (p:=(T.row _).eq=true) Ac ?_
    |refine fU Aa ?_
    |refine eZ2 ?_
    |refine eZ0 (fun hd=>?_) (fun hd=>?_)
    |refine br_lt (fun hlt=>?_) (fun hlt=>?_)
    |refine br_le (fun hle=>?_) (fun hle=>?_)
    |refine eV7 (fun heq=>?_) (fun heq=>?_)
    |refine eQ9 Aa (fun x hx=>?_)
    |refine eY0 rfl (fun h=>Ad) ?_
    |refine jU (fun hbb=>?_) (fun hbb=>?_)
    |refine ret_i ?_
    |refine fA7 ?_)
   refine cA7 ?_
   conv=>whnf
   refine⟨[],rfl,⟨⟨rfl,rfl,rfl,?_⟩,trivial⟩,rfl⟩;show List.map I (A'++Y'++X'++C')=_;rw[h4]
  ·obtain⟨X1,X2,rfl,hy⟩:∃X1 X2,X'=X1++X2/\X1.length=Y'.length:=⟨X'.take Y'.length,X'.drop Y'.length,Ae,Ai⟩
   have hxl:(X1++X2).length=X1.length+X2.length:=Ae
   repeat' ((conv=>whnf);first
    |refine arith_half Aa ?_
    |refine arith_u Aa ?_
    |(exfalso;omega)
    |(refine aQ2 (swap_spec (g:=g) (cs:=cs) (l:=A'++(X1++X2)++Y'++C') (l':=A'++Y'++X2++X1++C') (a:=A.length+X.length- (X1++X2).length) (b:=A.length+X.length) (n:=Y'.length) A' X1 X2 Y' C' hy Ae Ae Aa Aa Aa Aa) rfl rfl ?_ rfl rfl ?_;focus ((repeat' (first|exact trivial|refine And.intro ?_ ?_|with_reducible rfl|exact(fun h=>Ad)|exact rfl));done))
    |refine eY7 ?_
    |refine eZ1 Ac ?_
    |refine eH4 Aa ?_
    |refine fU (p:=(T.row _).eq=true) Ac ?_
    |refine fU Aa ?_
    |refine eZ2 ?_
    |refine eZ0 (fun hd=>?_) (fun hd=>?_)
    |refine br_lt (fun hlt=>?_) (fun hlt=>?_)
    |refine br_le (fun hle=>?_) (fun hle=>?_)
    |refine eV7 (fun heq=>?_) (fun heq=>?_)
    |refine eQ9 Aa (fun x hx=>?_)
    |refine eY0 rfl (fun h=>Ad) ?_
    |refine jU (fun hbb=>?_) (fun hbb=>?_)
    |refine ret_i ?_
    |refine fA7 ?_)
   refine⟨(A'++Y',X2,X1,C'),?_,⟨by show(A'++Y').length+X2.length=_;rw[List.length_append];omega,by show 0<X2.length;omega,by show 0<X1.length;omega,?_,?_⟩,?_⟩
   ·refine dV ?_ ?_ ?_ ?_
    all_goals repeat' (first|exact trivial|refine And.intro ?_ ?_|with_reducible rfl|exact(fun h=>Ad)|exact Nat.le_refl _|omega|exact rfl)
    ·show((X1++X2).length:Int)-Y'.length=X2.length
     omega
    ·show(Y'.length:Int)=X1.length
     omega
   ·show A'++Y'++X1++X2++C'=_
    rw[<-h4];simp
   ·show(A'++Y').length+X2.length+X1.length+C'.length<=100000
    rw[List.length_append];omega
   ·show X2.length+X1.length< (X1++X2).length+Y'.length
    omega
theorem rot_spec{l l':List Int}{a m b:Int}(A X Y C:List Int)(hX:0<X.length)(hY:0<Y.length)(h:l=A++X++Y++C)(h':l'=A++Y++X++C)(ha:a=A.length)(hm:m=A.length+X.length)(hb:b=A.length+X.length+Y.length)(hl:A.length+X.length+Y.length+C.length<=100000):
 SpIO 161 [.own 3 (l.map I),I a,I m,I b, .fn g [.fp cs]] (.tup []) 3 (l'.map I):=by
 subst h h' ha hm hb;exact eH7 rfl Tryz.func161 Ac Ac (rot_vc A X Y C hX hY hl)
end Go.Proofs.Cost58
namespace Go.Proofs.Cost58
open Go.Ab
section
variable{α:Type}(c:α->α->Int)
def mergeP:List α->List α->List α
 | [],ys=>ys
 |x::xs,[] =>x::xs
 |x::xs,y::ys=>if c y x<0 then y::mergeP (x::xs) ys else x::mergeP xs (y::ys)
termination_by xs ys=>xs.length+ys.length
variable{c}{key:α->Int}
theorem mergeP_nil(ys:List α):mergeP c [] ys=ys:=by rw[mergeP]
theorem mergeP_nil'(xs:List α):mergeP c xs [] =xs:=by cases xs<;>rw[mergeP]
theorem mergeP_cons(x y:α)(xs ys:List α):mergeP c (x::xs) (y::ys)=if c y x<0 then y::mergeP c (x::xs) ys else x::mergeP c xs (y::ys):=by rw[mergeP]
theorem mergeP_split{X2 Y2:List α}:∀(n:Nat) (X1 Y1:List α),X1.length+Y1.length<=n->(∀x∈X1,∀y∈Y2,¬c y x<0)->(∀y∈Y1,∀x∈X2,c y x<0)->mergeP c (X1++X2) (Y1++Y2)=mergeP c X1 Y1++mergeP c X2 Y2:=by
 intro n
 induction n with
 |zero=>
  intro X1 Y1 h h1 h2;have e1:X1=[] :=List.length_eq_zero_iff.1 Aa;have e2:Y1=[] :=List.length_eq_zero_iff.1 Aa
  subst e1 e2;simp[mergeP_nil]
 |succ n ih=>
  intro X1 Y1 h h1 h2
  match X1,Y1 with
  | [],[] =>simp[mergeP_nil]
  | [],y::Y1=>
    rw[mergeP_nil,List.nil_append]
    match X2 with
    | [] =>simp[mergeP_nil]
    |x::X2=>
     rw[List.cons_append,mergeP_cons,if_pos (h2 y Ae x Ae)];have:=ih [] Y1 BV Ae (fun y hy x hx=>h2 y FT x hx);rw[List.nil_append,mergeP_nil]at this;rw[this];rfl
  |x::X1,[] =>
   rw[mergeP_nil',List.nil_append]
   match Y2 with
   | [] =>simp[mergeP_nil']
   |y::Y2=>
    rw[List.cons_append,mergeP_cons,if_neg (h1 x Ae y Ae)];have:=ih X1 [] BV (fun x hx y hy=>h1 x BO y hy) Ae;rw[List.nil_append,mergeP_nil']at this;rw[this];rfl
  |x::X1,y::Y1=>
   rw[List.cons_append,List.cons_append,mergeP_cons,mergeP_cons];split
   ·have:=ih (x::X1) Y1 BV h1 (fun y hy x hx=>h2 y FT x hx)
    rw[List.cons_append]at this;rw[this];rfl
   ·have:=ih X1 (y::Y1) BV (fun x hx y hy=>h1 x BO y hy) h2
    rw[List.cons_append]at this;rw[this];rfl
theorem mergeP_len:∀(n:Nat) (X Y:List α),X.length+Y.length<=n->(mergeP c X Y).length=X.length+Y.length:=by
 intro n
 induction n with
 |zero=>
  intro X Y h;exact Om
 |succ n ih=>
  intro X Y h
  match X,Y with
  | [],Y=>simp[mergeP_nil]
  |x::X,[] =>simp[mergeP_nil']
  |x::X,y::Y=>
   rw[mergeP_cons];split
   ·rw[List.length_cons,ih _ _ BV];simp;omega
   ·rw[List.length_cons,ih _ _ BV];simp;omega
theorem mergeP_mem:∀(n:Nat) (X Y:List α),X.length+Y.length<=n->∀z,z∈mergeP c X Y↔z∈X\/z∈Y:=by
 intro n
 induction n with
 |zero=>
  intro X Y h;exact Om
 |succ n ih=>
  intro X Y h z
  match X,Y with
  | [],Y=>simp[mergeP_nil]
  |x::X,[] =>simp[mergeP_nil']
  |x::X,y::Y=>
   rw[mergeP_cons];split
   ·rw[List.mem_cons,ih _ _ BV];simp only[List.mem_cons]
    constructor
    ·rintro(h|(h|h)|h)<;>simp[h]
    ·rintro((h|h)|h|h)<;>simp[h]
   ·rw[List.mem_cons,ih _ _ BV];simp only[List.mem_cons]
    constructor
    ·rintro(h|h|h|h)<;>simp[h]
    ·rintro((h|h)|h|h)<;>simp[h]
def Srt(key:α->Int)(l:List α):Prop:=∀(i j:Nat) x y,i<=j->l[i]? =some x->l[j]? =some y->key x<=key y
theorem Srt.left{X Y:List α}(h:Srt key (X++Y)):Srt key X:=fun i j x y hij hx hy=>by
 have h1:=(List.getElem?_eq_some_iff.1 hx).1;have h2:=(List.getElem?_eq_some_iff.1 hy).1
 exact h i j x y hij (by rw[List.getElem?_append_left h1];exact hx) (by rw[List.getElem?_append_left h2];exact hy)
theorem Srt.right{X Y:List α}(h:Srt key (X++Y)):Srt key Y:=fun i j x y hij hx hy=>by
 exact h (X.length+i) (X.length+j) x y Aa (by rw[List.getElem?_append_right (by omega)];simpa using hx) (by rw[List.getElem?_append_right (by omega)];simpa using hy)
theorem merge_one{x:α}{Y1 Y2:List α}(h1:∀y∈Y1,c y x<0)(h2:∀y∈Y2,¬c y x<0):mergeP c [x] (Y1++Y2)=Y1++x::Y2:=by
 have:=mergeP_split (c:=c) (X2:=[x]) (Y2:=Y2) _ [] Y1 (Nat.le_refl _) Ae (fun y hy x' hx=>by rw[List.mem_singleton.1 hx];exact h1 y hy)
 rw[List.nil_append,mergeP_nil]at this;rw[this]
 cases Y2 with
 |nil=>rw[mergeP_nil']
 |cons y Y2=>rw[mergeP_cons,if_neg (h2 y Ae),mergeP_nil]
theorem merge_one'{y:α}{X1 X2:List α}(h1:∀x∈X1,¬c y x<0)(h2:∀x∈X2,c y x<0):mergeP c (X1++X2) [y] =X1++y::X2:=by
 have:=mergeP_split (c:=c) (X2:=X2) (Y2:=[y]) _ X1 [] (Nat.le_refl _) (fun x hx y' hy=>by rw[List.mem_singleton.1 hy];exact h1 x hx) Ae
 rw[List.nil_append,mergeP_nil']at this;rw[this]
 cases X2 with
 |nil=>rw[mergeP_nil]
 |cons x X2=>rw[mergeP_cons,if_pos (h2 x Ae),mergeP_nil']
theorem cut_sound(hk:∀a b,c a b<0↔key a<key b){X Y:List α}(hX:Srt key X)(hY:Srt key Y){s e:Nat}(hs:s<=X.length)(he:e<=Y.length)
 (h1:s=0\/e=Y.length\/∃x y,X[s-1]? =some x/\Y[e]? =some y/\¬c y x<0)(h2:s=X.length\/e=0\/∃x y,X[s]? =some x/\Y[e-1]? =some y/\c y x<0):
 mergeP c X Y=mergeP c (X.take s) (Y.take e)++mergeP c (X.drop s) (Y.drop e):=by
 have hm:=mergeP_split (c:=c) (X2:=X.drop s) (Y2:=Y.drop e) _ (X.take s) (Y.take e) (Nat.le_refl _) ?_ ?_
 ·rwa [List.take_append_drop,List.take_append_drop]at hm
 ·intro x hx y hy
  obtain⟨i,hi⟩:=List.mem_iff_getElem?.1 hx;obtain⟨j,hj⟩:=List.mem_iff_getElem?.1 hy;have hi1:=(List.getElem?_eq_some_iff.1 hi).1;have hj1:=(List.getElem?_eq_some_iff.1 hj).1
  rw[List.length_take]at hi1;rw[List.length_drop]at hj1;rw[List.getElem?_take,if_pos Aa]at hi;rw[List.getElem?_drop]at hj;rcases h1 with h1|h1|⟨x',y',q1,q2,q3⟩
  ·omega
  ·omega
  ·have:=hX i (s-1) x x' Aa hi q1
   have:=hY e (e+j) y' y Aa q2 hj;rw[hk]at q3⊢;omega
 ·intro y hy x hx
  obtain⟨i,hi⟩:=List.mem_iff_getElem?.1 hx;obtain⟨j,hj⟩:=List.mem_iff_getElem?.1 hy;have hi1:=(List.getElem?_eq_some_iff.1 hi).1;have hj1:=(List.getElem?_eq_some_iff.1 hj).1
  rw[List.length_drop]at hi1;rw[List.length_take]at hj1;rw[List.getElem?_drop]at hi;rw[List.getElem?_take,if_pos Aa]at hj;rcases h2 with h2|h2|⟨x',y',q1,q2,q3⟩
  ·omega
  ·omega
  ·have:=hX s (s+i) x' x Aa q1 hi
   have:=hY j (e-1) y y' Aa hj q2;rw[hk]at q3⊢;omega
end
end Go.Proofs.Cost58
