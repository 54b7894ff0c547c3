/- Lemmas. -/
import Derived.Test.YtcmgfjaiegpddaaGreatB22
import Derived.Test.YtcmgfjaiegpddaaGreatB24
set_option linter.all false
set_option maxRecDepth 100000
set_option maxHeartbeats 8000000
noncomputable section
namespace Go.Proofs.Led
open Go Go.Proofs Go.Ab Tryz
def dW8{a b:List Int}(k:Len6 a):fnVC T Tryz.prog Tryz.f131 [.sl (a.map I), .sl (b.map I)] (DB (a=b)):=by
 have f:(a.map I).length=a.length:=Af;have g:(b.map I).length=b.length:=Af;generalize hP:(a=b)=P;have hr:P↔a=b:=FX;clear hP;repeat' ((conv=>whnf);first|refine zS ?_|refine zT ?_ ?_<;>intro _|fail)
 all_goals conv=>whnf
 all_goals first
  |exact aA (aC (λh=>by have:=PN List.length (hr.1 h);omega))
  |skip
 refine oU (A:=List Int) (B:=List Int) (C:=List Int) (λD R S=>mkSt [(0, .sl (a.map I)),(1, .sl (b.map I)),(5,I D.length)] [] []) (λD R S=>a=D++R/\b=D++S) (λD R S=>R.length) [] a b ?_ ⟨rfl,rfl⟩ (λD R S hp=>?_);exact zj;obtain⟨hp,hq⟩:=hp;cases R with
 |nil=>exact H9
 |cons x R=>
  cases S with
  |nil=>exact Jm
  |cons y S=>
   have hlen:=aO hp;have d:=aO hq;have e:x≠y->¬P:=λh hP=>IE;have i:x∈a:=Ad;have j:y∈b:=Az
   skip
   repeat' ((conv=>whnf);first|omega|refine eV7 (λc=>?_) (λc=>?_)|refine zS ?_|refine zT ?_ ?_<;>intro _|fail)
   all_goals conv=>whnf
   all_goals first
    |exact aA (aC (e AO))
    |skip
   exact LJ
def cY1{a b:List Int}(c:Len6 a):Sp 131 [.sl (a.map I), .sl (b.map I)] (DB (a=b)):=zsp func131 (dW8 c)
def eK4{a b:List Vc}(k:Len6 a):fnVC T Tryz.prog Tryz.f148 [.sl (a.map vcV), .sl (b.map vcV)] (DB (a=b)):=by
 have f:(a.map vcV).length=a.length:=Af;have g:(b.map vcV).length=b.length:=Af;generalize hP:(a=b)=P;have hr:P↔a=b:=FX;clear hP;repeat' ((conv=>whnf);first|refine zS ?_|refine zT ?_ ?_<;>intro _|fail)
 all_goals conv=>whnf
 all_goals first
  |exact aA (aC (λh=>by have:=PN List.length (hr.1 h);omega))
  |skip
 refine oU (A:=List Vc) (B:=List Vc) (C:=List Vc) (λD R S=>mkSt [(0, .sl (a.map vcV)),(1, .sl (b.map vcV)),(5,I D.length)] [] []) (λD R S=>a=D++R/\b=D++S) (λD R S=>R.length) [] a b ?_ ⟨rfl,rfl⟩ (λD R S hp=>?_);exact zj;obtain⟨hp,hq⟩:=hp;cases R with
 |nil=>exact H9
 |cons x R=>
  cases S with
  |nil=>exact Jm
  |cons y S=>
   have hlen:=aO hp;have d:=aO hq;have e:x≠y->¬P:=λh hP=>IE;have i:x∈a:=Ad;have j:y∈b:=Az
   skip
   repeat' ((conv=>whnf);first|omega|refine aT1 ?_|refine aB4 (λc=>?_) (λc=>?_)|refine zS ?_|refine zT ?_ ?_<;>intro _|fail)
   all_goals conv=>whnf
   all_goals first
    |exact aA (aC (e AO))
    |skip
   exact LJ
def bK2{a b:List Vc}(c:Len6 a):Sp 148 [.sl (a.map vcV), .sl (b.map vcV)] (DB (a=b)):=zsp func148 (eK4 c)
def dK7{a b:List Iv}(k:Len6 a):fnVC T Tryz.prog Tryz.f109 [.sl (a.map ivV), .sl (b.map ivV)] (DB (a=b)):=by
 have f:(a.map ivV).length=a.length:=Af;have g:(b.map ivV).length=b.length:=Af;generalize hP:(a=b)=P;have hr:P↔a=b:=FX;clear hP;repeat' ((conv=>whnf);first|refine zS ?_|refine zT ?_ ?_<;>intro _|fail)
 all_goals conv=>whnf
 all_goals first
  |exact aA (aC (λh=>by have:=PN List.length (hr.1 h);omega))
  |skip
 refine oU (A:=List Iv) (B:=List Iv) (C:=List Iv) (λD R S=>mkSt [(0, .sl (a.map ivV)),(1, .sl (b.map ivV)),(5,I D.length)] [] []) (λD R S=>a=D++R/\b=D++S) (λD R S=>R.length) [] a b ?_ ⟨rfl,rfl⟩ (λD R S hp=>?_);exact zj;obtain⟨hp,hq⟩:=hp;cases R with
 |nil=>exact H9
 |cons x R=>
  cases S with
  |nil=>exact Jm
  |cons y S=>
   have hlen:=aO hp;have d:=aO hq;have e:x≠y->¬P:=λh hP=>IE;have i:x∈a:=Ad;have j:y∈b:=Az
   skip
   repeat' ((conv=>whnf);first|omega|refine aB4 (λc=>?_) (λc=>?_)|refine zS ?_|refine zT ?_ ?_<;>intro _|fail)
   all_goals conv=>whnf
   all_goals first
    |exact aA (aC (e AO))
    |skip
   exact LJ
def cE7{a b:List Iv}(c:Len6 a):Sp 109 [.sl (a.map ivV), .sl (b.map ivV)] (DB (a=b)):=zsp func109 (dK7 c)
def dO2{a b:List Rg}(l:Len6 a)(g:∀x∈a,Len6 x):fnVC T Tryz.prog Tryz.f149 [.sl (a.map rgV), .sl (b.map rgV)] (DB (a=b)):=by
 have i:(a.map rgV).length=a.length:=Af;have j:(b.map rgV).length=b.length:=Af;generalize hP:(a=b)=P;have hr:P↔a=b:=FX;clear hP;repeat' ((conv=>whnf);first|refine zS ?_|refine zT ?_ ?_<;>intro _|fail)
 all_goals conv=>whnf
 all_goals first
  |exact aA (aC (λh=>by have:=PN List.length (hr.1 h);omega))
  |skip
 refine oU (A:=List Rg) (B:=List Rg) (C:=List Rg) (λD R S=>mkSt [(0, .sl (a.map rgV)),(1, .sl (b.map rgV)),(5,I D.length)] [] []) (λD R S=>a=D++R/\b=D++S) (λD R S=>R.length) [] a b ?_ ⟨rfl,rfl⟩ (λD R S hp=>?_);exact zj;obtain⟨hp,hq⟩:=hp;cases R with
 |nil=>exact H9
 |cons x R=>
  cases S with
  |nil=>exact Jm
  |cons y S=>
   have hlen:=aO hp;have d:=aO hq;have e:x≠y->¬P:=λh hP=>IE;have f:x∈a:=Ad;have k:y∈b:=Az;have c:=g x f;repeat' ((conv=>whnf);first|omega|refine zc (bK2 (b:=y) c) ?_|refine zS ?_|refine zT ?_ ?_<;>intro _|fail)
   all_goals conv=>whnf
   all_goals first
    |exact aA (aC (e AO))
    |skip
   exact LJ
def cI7{a b:List Rg}(c:Len6 a)(d:∀x∈a,Len6 x):Sp 149 [.sl (a.map rgV), .sl (b.map rgV)] (DB (a=b)):=zsp func149 (dO2 c d)
def fC2{a b:Sh}:a=b↔a.outer=b.outer/\a.holes=b.holes:=by
 constructor;rintro rfl;exact⟨rfl,rfl⟩;obtain⟨o,h⟩:=a;obtain⟨f,e⟩:=b;rintro⟨c,d⟩;simp only at c d;rw[c,d]
def aW1(a b:Sh)(f:aV5 a):Sp 107 [shV a,shV b] (DB (a=b)):=by
 refine zsp func107 ?_;obtain⟨c,d,e⟩:=f;have g:=bK2 (b:=b.outer) c;have i:=cI7 (b:=b.holes) d e;have j:a=b↔a.outer=b.outer/\a.holes=b.holes:=fC2;generalize (a=b)=P at*;generalize (a.outer=b.outer)=k at*;generalize (a.holes=b.holes)=l at*;repeat' ((conv=>whnf);first|refine zS ?_|refine zT ?_ ?_<;>intro _|fail)
 all_goals conv=>whnf
 all_goals first
  |exact aA (fQ BK)
  |exact aA (aC BK)
def dB4{a b:List Sh}(l:Len6 a)(g:∀x∈a,aV5 x):fnVC T Tryz.prog Tryz.f108 [.sl (a.map shV), .sl (b.map shV)] (DB (a=b)):=by
 have i:(a.map shV).length=a.length:=Af;have j:(b.map shV).length=b.length:=Af;generalize hP:(a=b)=P;have hr:P↔a=b:=FX;clear hP;repeat' ((conv=>whnf);first|refine zS ?_|refine zT ?_ ?_<;>intro _|fail)
 all_goals conv=>whnf
 all_goals first
  |exact aA (aC (λh=>by have:=PN List.length (hr.1 h);omega))
  |skip
 refine oU (A:=List Sh) (B:=List Sh) (C:=List Sh) (λD R S=>mkSt [(0, .sl (a.map shV)),(1, .sl (b.map shV)),(5,I D.length)] [] []) (λD R S=>a=D++R/\b=D++S) (λD R S=>R.length) [] a b ?_ ⟨rfl,rfl⟩ (λD R S hp=>?_);exact zj;obtain⟨hp,hq⟩:=hp;cases R with
 |nil=>exact H9
 |cons x R=>
  cases S with
  |nil=>exact Jm
  |cons y S=>
   have hlen:=aO hp;have d:=aO hq;have e:x≠y->¬P:=λh hP=>IE;have f:x∈a:=Ad;have k:y∈b:=Az;have c:=g x f;repeat' ((conv=>whnf);first|omega|refine zc (aW1 x y c) ?_|refine zS ?_|refine zT ?_ ?_<;>intro _|fail)
   all_goals conv=>whnf
   all_goals first
    |exact aA (aC (e AO))
    |skip
   exact LJ
def cB6{a b:List Sh}(c:Len6 a)(d:∀x∈a,aV5 x):Sp 108 [.sl (a.map shV), .sl (b.map shV)] (DB (a=b)):=zsp func108 (dB4 c d)
def dN5{a b:jL}:a=b↔a.id=b.id/\a.grade=b.grade/\a.heat=b.heat/\a.grain=b.grain/\a.shape=b.shape/\a.defects=b.defects:=by
 constructor;rintro rfl;exact⟨rfl,rfl,rfl,rfl,rfl,rfl⟩;obtain⟨⟩:=a;obtain⟨⟩:=b;rintro⟨c,d,e,f,g,h⟩;simp only at c d e f g h;rw[c,d,e,f,g,h]
def cQ1(a b:jL)(f:aA4 a):Sp 59 [zJ a,zJ b] (DB (a=b)):=by
 refine zsp func59 ?_;obtain⟨c,d,e⟩:=f;have g:=aW1 a.shape b.shape c;have i:=cB6 (b:=b.defects) d e;have j:a=b↔a.id=b.id/\a.grade=b.grade/\a.heat=b.heat/\a.grain=b.grain/\a.shape=b.shape/\a.defects=b.defects:=dN5;generalize (a=b)=P at*;generalize (a.shape=b.shape)=k at*;exact MJ
def eO5{a b:Bar}:a=b↔a.id=b.id/\a.grade=b.grade/\a.heat=b.heat/\a.length=b.length/\a.defects=b.defects:=J5
def dK6(a b:Bar)(c:Len6 a.defects):Sp 60 [barV a,barV b] (DB (a=b)):=by
 refine zsp func60 ?_;have d:=cE7 (b:=b.defects) c;have e:a=b↔a.id=b.id/\a.grade=b.grade/\a.heat=b.heat/\a.length=b.length/\a.defects=b.defects:=eO5;generalize (a=b)=P at*;exact MJ
def eK5{a b:Bool}{A B:Prop}(c:a=b->A)(d:a≠b->B):branch (eqBB a b) A B:=by
 grind [cA1,jU]
def dJ6{a b:aN}:a=b↔a.isBar=b.isBar/\a.program=b.program/\a.sheet=b.sheet/\a.bar=b.bar:=by
 constructor;rintro rfl;exact⟨rfl,rfl,rfl,rfl⟩;obtain⟨⟩:=a;obtain⟨⟩:=b;rintro⟨c,d,e,f⟩;simp only at c d e f;rw[c,d,e,f]
def bK9(x:aN):Prop:=aA4 x.sheet/\Len6 x.bar.defects
def cK0(a b:aN)(f:bK9 a):Sp 132 [aQ a,aQ b] (DB (a=b)):=by
 refine zsp func132 ?_;obtain⟨d,e⟩:=f;have g:=cQ1 a.sheet b.sheet d;have i:=dK6 a.bar b.bar e;have j:a=b↔a.isBar=b.isBar/\a.program=b.program/\a.sheet=b.sheet/\a.bar=b.bar:=dJ6;generalize (a=b)=P at*;generalize (a.sheet=b.sheet)=k at*;generalize (a.bar=b.bar)=l at*;repeat' ((conv=>whnf);first|refine jI (λc=>?_) (λc=>?_)|refine eK5 (λc=>?_) (λc=>?_)|refine zS ?_|refine zT ?_ ?_<;>intro _|fail)
 all_goals conv=>whnf
 all_goals first
  |exact aA (fQ BK)
  |exact aA (aC BK)
def thC(x:aJ)(c r:V):List V:=[c,r, .sl (x.used.map I),I x.received.1,I x.received.2,I x.scrap.1,I x.scrap.2]
abbrev yO:List V:=[nilV,nilV,nilV,I 0,I 0,I 0,I 0]
def thS1(x:aJ):List aN->Int->St
 | [],n=>mkSt [(1, .box 1 0),(2, .box 2 0),(3, .box 3 0),(4,I n)] [(1,invC x),(2,yO),(3,thC x nilV nilV)] []
 |c::C,n=>mkSt [(1, .box 1 0),(2, .box 2 0),(3, .box 3 0),(4,I n)] [(1,invC x),(2,yO),(3,thC x (.arr 28 C.length) nilV)] [(28,⟨C.length, .own,197,(c::C).map aQ⟩)]
def thS2(x:aJ):List aN->List Piece->Int->St
 | [],[],n=>mkSt [(1, .box 1 0),(2, .box 2 0),(3, .box 3 0),(5,I n)] [(1,invC x),(2,yO),(3,thC x nilV nilV)] []
 |c::C,[],n=>mkSt [(1, .box 1 0),(2, .box 2 0),(3, .box 3 0),(5,I n)] [(1,invC x),(2,yO),(3,thC x (.arr 28 C.length) nilV)] [(28,⟨C.length, .own,197,(c::C).map aQ⟩)]
 | [],r::R,n=>mkSt [(1, .box 1 0),(2, .box 2 0),(3, .box 3 0),(5,I n)] [(1,invC x),(2,yO),(3,thC x nilV (.arr 45 R.length))] [(45,⟨R.length, .own,198,(r::R).map aZ⟩)]
 |c::C,r::R,n=>mkSt [(1, .box 1 0),(2, .box 2 0),(3, .box 3 0),(5,I n)] [(1,invC x),(2,yO),(3,thC x (.arr 28 C.length) (.arr 45 R.length))] [(28,⟨C.length, .own,197,(c::C).map aQ⟩),(45,⟨R.length, .own,198,(r::R).map aZ⟩)]
def aA5(x:aJ)(k:x.stocks.length<=1000000)(q:x.pieces.length<=1000000):Sp 81 [invV x] (invV x):=by
 refine zsp func81 ?_;have n:(x.stocks.map aQ).length=x.stocks.length:=Af;have o:(x.pieces.map aZ).length=x.pieces.length:=Af;repeat' ((conv=>whnf);first|refine zS ?_|fail)
 refine aU (A:=List aN) (B:=List aN) (λD R=>thS1 x D D.length) (λD R=>x.stocks=D++R) (λD R=>R.length) [] x.stocks ?_ rfl (λD R hp=>?_);show Le T _ (thS1 x [] 0);exact zj;cases R with
 |cons c R=>
  have i:=aO hp;have m:((D++[c]).length:Int)=(D.length:Int)+1:=Af;cases D with
  |nil=>
   have h00:([] :List aN).length=0:=rfl;repeat' ((conv=>whnf);first|omega|refine gX (OZ rfl) (dA rfl) (show(1:Nat)<=1000000000 from Ai) ?_|refine zS ?_|refine zT ?_ ?_<;>intro _|fail)
   all_goals conv=>whnf
   refine⟨([c],R),?_,hp,Af⟩;show Le T _ (thS1 x [c] 1);exact zj
  |cons d D=>
   have h00:(d::D).length=D.length+1:=rfl;repeat' ((conv=>whnf);first|omega|refine mX (l:=d::D) rfl rfl (.inl rfl) rfl (OZ rfl) rfl Aa ?_|refine zS ?_|refine zT ?_ ?_<;>intro _|fail)
   all_goals conv=>whnf
   refine⟨(d::(D++[c]),R),?_,Ad,Af⟩;have b:(d::(D++[c])).map aQ=(d::D).map aQ++[aQ c] :=Af;have f:(D++[c]).length=D.length+1:=Af;have g:((d::(D++[c])).length:Int)=((d::D).length:Int)+1:=Af;show Le T _ (mkSt [(1, .box 1 0),(2, .box 2 0),(3, .box 3 0),(4,I ((d::(D++[c])).length:Nat))] [(1,invC x),(2,yO),(3,thC x (.arr 28 (D++[c]).length) nilV)] [(28,⟨(D++[c]).length, .own,197,(d::(D++[c])).map aQ⟩)]);rw[b,f,g];exact zj
 |nil=>
  have i:x.stocks.length=D.length:=Ad;have e:x.stocks=D:=Ad;cases D with
  |nil=>
  ·have j:(([] :List aN)).length<=1000000:=by rw[<-e];exact k
   repeat' ((conv=>whnf);first|omega|refine zS ?_|refine zT ?_ ?_<;>intro _|fail)
   refine aU (A:=List Piece) (B:=List Piece) (λD R=>thS2 x [] D D.length) (λD R=>x.pieces=D++R) (λD R=>R.length) [] x.pieces ?_ rfl (λE R hp=>?_);show Le T _ (thS2 x [] [] 0);exact zj;cases R with
   |cons r R=>
    have a:=aO hp;cases E with
    |nil=>
     have h00:([] :List Piece).length=0:=rfl;repeat' ((conv=>whnf);first|omega|refine gX (OZ rfl) (dA rfl) (show(1:Nat)<=1000000000 from Ai) ?_|refine zS ?_|refine zT ?_ ?_<;>intro _|fail)
     all_goals conv=>whnf
     refine⟨([r],R),?_,hp,Af⟩;show Le T _ (thS2 x [] [r] 1);exact zj
    |cons d E=>
     have h00:(d::E).length=E.length+1:=rfl;repeat' ((conv=>whnf);first|omega|refine mX (l:=d::E) rfl rfl (.inl rfl) rfl (OZ rfl) rfl Aa ?_|refine zS ?_|refine zT ?_ ?_<;>intro _|fail)
     all_goals conv=>whnf
     refine⟨(d::(E++[r]),R),?_,Ad,Af⟩;have b:(d::(E++[r])).map aZ=(d::E).map aZ++[aZ r] :=Af;have f:(E++[r]).length=E.length+1:=Af;have g:((d::(E++[r])).length:Int)=((d::E).length:Int)+1:=Af;show Le T _ (mkSt [(1, .box 1 0),(2, .box 2 0),(3, .box 3 0),(5,I ((d::(E++[r])).length:Nat))] [(1,invC x),(2,yO),(3,thC x nilV (.arr 45 (E++[r]).length))] ((45,⟨(E++[r]).length, .own,198,(d::(E++[r])).map aZ⟩):: []));rw[b,f,g];exact zj
   |nil=>
    have a:x.pieces.length=E.length:=Ad;have e4:x.pieces=E:=Ad;have ev:invV x= .agg (thC x (.sl (([] :List aN).map aQ)) (.sl (E.map aZ))):=Gl;exact NP
  |cons c C=>
  have j:(((c::C):List aN)).length<=1000000:=by rw[<-e];exact k
  repeat' ((conv=>whnf);first|omega|refine zS ?_|refine zT ?_ ?_<;>intro _|fail)
  refine aU (A:=List Piece) (B:=List Piece) (λD R=>thS2 x (c::C) D D.length) (λD R=>x.pieces=D++R) (λD R=>R.length) [] x.pieces ?_ rfl (λE R hp=>?_);show Le T _ (thS2 x (c::C) [] 0);exact zj;cases R with
  |cons r R=>
   have a:=aO hp;cases E with
   |nil=>
    have h00:([] :List Piece).length=0:=rfl;repeat' ((conv=>whnf);first|omega|refine gX (OZ rfl) (dA rfl) (show(1:Nat)<=1000000000 from Ai) ?_|refine zS ?_|refine zT ?_ ?_<;>intro _|fail)
    all_goals conv=>whnf
    refine⟨([r],R),?_,hp,Af⟩;show Le T _ (thS2 x (c::C) [r] 1);exact zj
   |cons d E=>
    have h00:(d::E).length=E.length+1:=rfl;repeat' ((conv=>whnf);first|omega|refine mX (l:=d::E) rfl rfl (.inl rfl) rfl (OZ rfl) rfl Aa ?_|refine zS ?_|refine zT ?_ ?_<;>intro _|fail)
    all_goals conv=>whnf
    refine⟨(d::(E++[r]),R),?_,Ad,Af⟩;have b:(d::(E++[r])).map aZ=(d::E).map aZ++[aZ r] :=Af;have f:(E++[r]).length=E.length+1:=Af;have g:((d::(E++[r])).length:Int)=((d::E).length:Int)+1:=Af;show Le T _ (mkSt [(1, .box 1 0),(2, .box 2 0),(3, .box 3 0),(5,I ((d::(E++[r])).length:Nat))] [(1,invC x),(2,yO),(3,thC x (.arr 28 C.length) (.arr 45 (E++[r]).length))] ((28,⟨C.length, .own,197,(c::C).map aQ⟩)::(45,⟨(E++[r]).length, .own,198,(d::(E++[r])).map aZ⟩):: []));rw[b,f,g];exact zj
  |nil=>
   have a:x.pieces.length=E.length:=Ad;have e4:x.pieces=E:=Ad;have ev:invV x= .agg (thC x (.sl (((c::C):List aN).map aQ)) (.sl (E.map aZ))):=Gl;exact NP
theorem eqPc(a d e f g i j k:Int)(l m n o q r s t:ByteArray)(b c:Bool):eqT T 4 198 [I a,I d,S l,S m,S n,I e,B b,I f,S o] [I g,I i,S q,S r,S s,I j,B c,I k,S t] =
 some (andB (eqB a g) (andB (eqB d i) (andB (eqSB l q) (andB (eqSB m r) (andB (eqSB n s) (andB (eqB e j) (andB (eqBB b c) (andB (eqB f k) (andB (eqSB o t) true))))))))):=Ac
def eW2{a d e f g i j k:Int}{l m n o p q r s:ByteArray}{b c:Bool}{K:Bool->Prop}
 (h:K (andB (eqB a g) (andB (eqB d i) (andB (eqSB l p) (andB (eqSB m q) (andB (eqSB n r) (andB (eqB e j) (andB (eqBB b c) (andB (eqB f k) (andB (eqSB o s) true)))))))))):
 aL1.match_1 (λ_=>Prop) (eqT T 4 198 [I a,I d,S l,S m,S n,I e,B b,I f,S o] [I g,I i,S p,S q,S r,I j,B c,I k,S s]) K (λ_=>False):=by
 rw[eqPc];exact h
theorem dR2{a b:Piece}:a=b↔a.id=b.id/\a.parent=b.parent/\a.part=b.part/\a.grade=b.grade/\a.heat=b.heat/\a.size=b.size/\a.isBar=b.isBar/\a.status=b.status/\a.order=b.order:=by
 constructor;rintro rfl;exact⟨rfl,rfl,rfl,rfl,rfl,rfl,rfl,rfl,rfl⟩;obtain⟨⟩:=a;obtain⟨⟩:=b;rintro⟨c,d,e,f,g,h,i,j,k⟩;simp only at c d e f g h i j k;rw[c,d,e,f,g,h,i,j,k]
def eV1{a b:Piece}:andB (eqB a.id b.id) (andB (eqB a.parent b.parent) (andB (eqSB a.part b.part) (andB (eqSB a.grade b.grade) (andB (eqSB a.heat b.heat) (andB (eqB a.size b.size) (andB (eqBB a.isBar b.isBar) (andB (eqB a.status b.status) (andB (eqSB a.order b.order) true))))))))=true↔a=b:=by
 rw[dR2];simp only[dE9,aA1,eK9,cA1,beq_iff_eq,and_true]
def dV1{a b:Piece}{A B:Prop}(c:a=b->A)(d:a≠b->B):branch (andB (eqB a.id b.id) (andB (eqB a.parent b.parent) (andB (eqSB a.part b.part) (andB (eqSB a.grade b.grade) (andB (eqSB a.heat b.heat) (andB (eqB a.size b.size) (andB (eqBB a.isBar b.isBar) (andB (eqB a.status b.status) (andB (eqSB a.order b.order) true))))))))) A B:=
 jU (λh=>c (eV1.1 h)) (λh=>d (λe=>by rw[eV1.2 e]at h;cases h))
def eM2{a b:aJ}:a=b↔a.stocks=b.stocks/\a.pieces=b.pieces/\a.used=b.used/\a.received=b.received/\a.scrap=b.scrap:=J5
def bR8(a b:aJ)(T:Len6 a.stocks)(Q:Len6 a.pieces)(L:Len6 a.used)(M:∀x∈a.stocks,bK9 x):Sp 80 [invV a,invV b] (DB (a=b)):=by
 refine zsp func80 ?_;have F:(a.stocks.map aQ).length=a.stocks.length:=Af;have G:(b.stocks.map aQ).length=b.stocks.length:=Af;have H:(a.pieces.map aZ).length=a.pieces.length:=Af;have J:(b.pieces.map aZ).length=b.pieces.length:=Af;have N:=cY1 (b:=b.used) L;have d:a=b↔a.stocks=b.stocks/\a.pieces=b.pieces/\a.used=b.used/\a.received=b.received/\a.scrap=b.scrap:=eM2;generalize (a=b)=P at*;have l:a.stocks.length≠b.stocks.length->¬P:=λh q=>h (by rw[(d.1 q).1]);have m:a.pieces.length≠b.pieces.length->¬P:=λh q=>h (by rw[(d.1 q).2.1]);have n:¬a.used=b.used->¬P:=λh q=>h (d.1 q).2.2.1;have o:a.received≠b.received->¬P:=λh q=>h (d.1 q).2.2.2.1;have r:a.scrap≠b.scrap->¬P:=λh q=>h (d.1 q).2.2.2.2;generalize K:(a.used=b.used)=U at*;repeat' ((conv=>whnf);first|refine aB4 (λi=>?_) (λi=>?_)|refine zS ?_|refine zT ?_ ?_<;>intro _|fail)
 all_goals conv=>whnf
 all_goals first
  |exact aA (aC (l Aa))
  |exact aA (aC (m Aa))
  |exact aA (aC (n Ah))
  |exact aA (aC (o Ah))
  |exact aA (aC (r Ah))
  |skip
 have s:P↔a.stocks=b.stocks/\a.pieces=b.pieces:=⟨λh=>⟨(d.1 h).1,(d.1 h).2.1⟩,λh=>d.2 ⟨h.1,h.2,Ah,Ah,Ah⟩⟩;clear d l m n o r;refine oU (A:=List aN) (B:=List aN) (C:=List aN) (λD R S=>mkSt [(2, .box 2 0),(3, .box 3 0),(5,I D.length)] [(2,invC a),(3,invC b)] []) (λD R S=>a.stocks=D++R/\b.stocks=D++S) (λD R S=>R.length) [] a.stocks b.stocks ?_ ⟨rfl,rfl⟩ (λD R S v=>?_);exact zj;obtain⟨hq1,hq2⟩:=v;cases R with
 |cons x R=>
  cases S with
  |nil=>
   have h1:b.stocks.length=D.length:=Hq;have z:=aO hq1;exfalso;omega
  |cons y S=>
   have e:=aO hq1;have c:=aO hq2
   have j:¬x=y->¬P:=λh f=>by
    have h1:=(s.1 f).1;exact Ot
   have O:=cK0 x y (M x G6);repeat' ((conv=>whnf);first|omega|refine zS ?_|refine zT ?_ ?_<;>intro _|fail)
   all_goals conv=>whnf
   all_goals first
    |exact aA (aC (j Ah))
    |skip
   refine⟨(D++[x],R,S),?_,⟨G6,?_⟩,Af⟩;exact Ih;have k:x=y:=by assumption
   rw[hq2,k];simp
 |nil=>
  have e:a.stocks.length=D.length:=G6
  have t:S=[] :=by
   have h1:b.stocks.length=D.length+S.length:=Hq;exact PV.1 Aa
  subst t;have w:a.stocks=b.stocks:=by rw[hq1,hq2]
  have g:P↔a.pieces=b.pieces:=⟨λh=>(s.1 h).2,λh=>s.2 ⟨w,h⟩⟩;clear hq1 hq2 s;repeat' ((conv=>whnf);first|omega|refine zS ?_|refine zT ?_ ?_<;>intro _|fail)
  refine oU (A:=List Piece) (B:=List Piece) (C:=List Piece) (λD R S=>mkSt [(2, .box 2 0),(3, .box 3 0),(6,I D.length)] [(2,invC a),(3,invC b)] []) (λD R S=>a.pieces=D++R/\b.pieces=D++S) (λD R S=>R.length) [] a.pieces b.pieces ?_ ⟨rfl,rfl⟩ (λE R S v=>?_);exact zj;obtain⟨hq1,hq2⟩:=v;cases R with
  |cons x R=>
   cases S with
   |nil=>
    have h1:b.pieces.length=E.length:=Hq;have z:=aO hq1;exfalso;omega
   |cons y S=>
    have e:=aO hq1;have c:=aO hq2
    have j:x≠y->¬P:=λh f=>by
     have h1:=g.1 f;exact Ot
    repeat' ((conv=>whnf);first|omega|refine eW2 ?_|refine dV1 (λi=>?_) (λi=>?_)|refine zS ?_|refine zT ?_ ?_<;>intro _|fail)
    all_goals conv=>whnf
    all_goals first
     |exact aA (aC (j Ah))
     |skip
    refine⟨(E++[x],R,S),?_,⟨G6,?_⟩,Af⟩;exact Ih;have k:x=y:=by assumption
    rw[hq2,k];simp
  |nil=>
   have c:a.pieces.length=E.length:=G6
   have t:S=[] :=by
    have h1:b.pieces.length=E.length+S.length:=Hq;exact PV.1 Aa
   subst t;have u:P:=g.2 (by rw[hq1,hq2]);clear hq1 hq2 g;repeat' ((conv=>whnf);first|omega|refine zS ?_|refine zT ?_ ?_<;>intro _|fail)
   all_goals conv=>whnf
   exact aA (fE u)
def bU0{x:aN}(h:eY x):bK9 x:=by
 obtain⟨⟨⟨i,j,b⟩,k,e⟩,c⟩:=h
 exact⟨⟨⟨Aa,Aa,λr a=>by have:=b r a;omega⟩,Aa,λd f=>by
  obtain⟨l,m,g⟩:=e d f;exact⟨Aa,Aa,λr a=>by have:=g r a;omega⟩⟩,by show _<=_;omega⟩
def dO9{a b:aJ}{n m:Nat}(c:Ok a n)(d:Ok b m)(f:n<=1000000)(e:m<=1000000):Sp 21 [invV a,invV b] (DB (a=b)):=by
 have i:=aA5 a (PD c.ls f) (PD c.lp f);have j:=aA5 b (PD d.ls e) (PD d.lp e);have k:=bR8 a b (by have:=c.ls;show _<=_;omega) (by have:=c.lp;show _<=_;omega) (by have:=c.lu;show _<=_;omega) (λx g=>bU0 (c.sz x g));refine zsp func21 ?_;repeat' ((conv=>whnf);first|refine zc i ?_|refine zc j ?_|refine zc k ?_|refine zS ?_|fail)
 all_goals conv=>whnf
 all_goals exact aA rfl
end Go.Proofs.Led
